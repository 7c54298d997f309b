/- Contract: a round of the search for factors. Own work; no condition. -/
import Derived.Test.YtkkccchkmcjcpaaGreatR12
import Derived.Test.YtkkccchkmcjcpaaGreatR8
import Derived.Test.YtkkccchkmcjcpaaGreatR7
import Derived.Test.YtkkccchkmcjcpaaGreatR11
import Derived.Test.YtkkccchkmcjcpaaGreatR9
import Derived.Test.YtkkccchkmcjcpaaGreatR10
set_option linter.defProp false
set_option linter.unusedVariables false
set_option linter.unusedSimpArgs false
set_option linter.unnecessarySimpa false
namespace Go.El
open Go Go.Proofs
def adU(x i:Nat)(hx:x<256)(hi:i<64):(IntKind.wrap .u64 ((BitVec.ofInt (IntKind.bits .u64) ((x:Int).fdiv (2^(min ((i:Int)).toNat (IntKind.bits .u64))))&&& BitVec.ofInt (IntKind.bits .u64) 1).toNat:Int)==1)=x.testBit i:=by
 have e1:min ((i:Int)).toNat (IntKind.bits .u64)=i:=by rw[bw];show min i 64=i;omega
 have e2:(x:Int).fdiv (2^i)=((x/2^i:Nat):Int):=by
  have e3:(2:Int)^i=((2^i:Nat):Int):=by rw[uK];rfl
  rw[e3,C2 _ (nO _)];rfl
 rw[e1,e2];have hy:x/2^i≤x:=Df _ _;rw[Nat.testBit_eq_decide_div_mod_eq];generalize x/2^i=y at*;have e4:(BitVec.ofInt (IntKind.bits .u64) ((y:Nat):Int)&&& BitVec.ofInt (IntKind.bits .u64) 1).toNat=y%2:=by
  rw[BitVec.toNat_and];have a1:(BitVec.ofInt (IntKind.bits .u64) ((y:Nat):Int)).toNat=y:=by rw[BitVec.toNat_ofInt];show(((y:Nat):Int)%((2^64:Nat):Int)).toNat=_;omega
  have a2:(BitVec.ofInt (IntKind.bits .u64) 1).toNat=1:=rfl;rw[a1,a2,Nat.and_one_is_mod]
 rw[e4,wrap_u64 _ (nO _) af];by_cases h:y%2=1
 ·rw[h];rfl
 ·have:y%2=0:=by omega
  rw[this];rfl
def adV(b:Nat→Bool)(l:List (List Int)){j:Nat}(h:j<l.length):bL b 0 (l.take (j+1))=bL b 0 (l.take j)++(if b j then[l.getD j []]else[]):=by rw[JL h,acO,eR,fD,tx af,bL,bL];rw[aY,ct h];rfl
structure yP(a:List Int)(l:List (List Int))(m:Int)(w:Nat):Prop where
 am:bQ a
 la:a.length≤100
 ln:l.length≤8
 lm:∀f∈l,bQ f∧f.length≤100
 hm:1<m
 w1:w≤40000
 w0:1≤w
 mB:aU w m
 aB:∀i,aU w (a.getD i 0)
 lB:∀f∈l,∀i,aU w (f.getD i 0)
def yP.tm{a:List Int}{l:List (List Int)}{m:Int}{w:Nat}(h:yP a l m w)(b:Nat→Bool)(j:Nat):bQ (jC m [1] (bL b 0 (l.take j)))∧(jC m [1] (bL b 0 (l.take j))).length≤900∧∀i,aU w ((jC m [1] (bL b 0 (l.take j))).getD i 0):=by
 have eI:∀f∈bL b 0 (l.take j),f∈l:=λf hf=>OI (xl hf)
 obtain⟨h1,h2⟩:=AJ h.hm CC (λf hf=>(h.lm f (eI f hf)).1:∀f∈bL b 0 (l.take j),bQ f);refine⟨h1,?_,?_⟩
 ·have key:∀L:List (List Int),(∀f∈L,f.length≤100)→iS L≤99*L.length:=by
   intro L;induction L with
   |nil=>intro _;exact bK _
   |cons f L ih=>
    intro hL
    have:=ih λx hx=>hL x lC
    have:=hL f be
    rw[iS,fk];omega
  have h3:=key _ λf hf=>(h.lm f (eI f hf)).2
  have h4:(bL b 0 (l.take j)).length≤l.length:=by
   have UB:∀(L:List (List Int))(i:Nat),(bL b i L).length≤L.length:=by
    intro L;induction L with
    |nil=>intro i;exact bF _
    |cons f L ih=>
     intro i
     have:=ih (i+1)
     rw[bL]
     split
     ·simp;omega
     ·simp;omega
   exact dG (UB _ _) y7
  have:=h.ln;rw[h2];show 1+_≤_;omega
 ·have key:∀(L:List (List Int))(g:List Int),(∀i,aU w (g.getD i 0))→∀i,aU w ((jC m g L).getD i 0):=by
   intro L;induction L with
   |nil=>intro g hg;exact hg
   |cons f L ih=>
    intro g _
    exact ih _ λi=>by obtain⟨r1,r2⟩:=TD g f (show 0<m by have:=h.hm;omega) i;exact aU.lt r1 r2 h.mB
  refine key _ _ λi=>?_
  match i with
  |0=>exact(aU.one (a:=1) ak).le h.w0
  |i+1=>exact aU.zero _
def adW{n:Nat}{e:Exit}{st:St}{bo:Bool}{xid:Nat}{Mo:List (Nat×aJ)}(he:e=if bo then .normal else .exit xid)(eS:1≤st.nx)(hm:st.mem=Mo):gH n e st xn (Jd bo xid Mo):=by intro F hF gM ds g W a hh hO;have Ji:ds=[]:=hO;subst Ji;refine⟨he,g,st.nx,eS,?_⟩;obtain⟨sl,mem,nx,gd⟩:=st;simp only at hm eS;subst hm;exact bJ.frame (F:=F.dr []) (n':=(F.dr []).n) (ds':=[]) (rd':=(F.dr []).rd) hh hh.size hh.defers (λt v hv=>by simp[ao]at hv) (λid b hb=>hb)
def Ft:Code→Option (Code×Code)
 | .rangeFunc _ _ x y=>some (x,y)
 | .seq x y=>match Ft x with
  |some z=>some z
  |none=>Ft y
 | .block _ x=>Ft x
 | .loop x=>Ft x
 | .scope x=>Ft x
 |_=>none
def rfC(c:Option Code):Option (Code×Code):=match c with
 |some c=>Ft c
 |none=>none
open Classical in
noncomputable def r9(a:List Int)(l:List (List Int))(m:Int)(S:Nat):Bool:=decide (Rx.zx (gS m l S.testBit)∣Rx.zx a)
open Classical in
def aps{a:List Int}{l:List (List Int)}{m:Int}{S:Nat}(h:Rx.zx (gS m l S.testBit)∣Rx.zx a):r9 a l m S=true:=ov h
open Classical in
def apt{a:List Int}{l:List (List Int)}{m:Int}{S:Nat}(h:¬Rx.zx (gS m l S.testBit)∣Rx.zx a):r9 a l m S=false:=kq h
noncomputable abbrev mF(n:Nat)(a:List Int)(l:List (List Int))(m:Int)(fd:List (List Int))(S:Nat):List (Nat×aJ):=mC n (qT a (gS m l S.testBit)) (bL (λi=> !S.testBit i) 0 l) m (fd++[gS m l S.testBit])
set_option maxRecDepth 100000 in
set_option maxHeartbeats 16000000 in
def apu{a:List Int}{l:List (List Int)}{m:Int}{w:Nat}(h:yP a l m w){fd:List (List Int)}(Bh:fd.length≤1000){x:Nat}(hx:x<256){iT bd:Code}(xQ:rfC Tryz.f257.body=some (iT,bd)):
  TJ Tryz.prog 75 bd ⟨[(8,cU x),(3,.c (.P 1000000 0)),(4,.c (.P 1001000 0)),(5,.c (.P 1002000 0)),(7,.c (.P 2000000 0))],oo::mC l.length a l m fd,31,[]⟩ xn (Jd (!r9 a l m x) 1 (oo::if r9 a l m x then mF l.length a l m fd x else mC l.length a l m fd)):=by
 obtain⟨ea,eb⟩:=Prod.mk.inj (Gc ((rfl:rfC Tryz.f257.body=some (_,_)).symm.trans xQ))
 subst ea eb
 clear xQ
 have hO:=adu
 have hln:=h.ln
 have jq:0<m:=by have:=h.hm;omega
 refine uC (CQ hO (rc ae ae (oH 1 ak ak) (x8 .z [1] ae ae (re ae (kr hO ae (qU (kr hO ae (uC (Jb (α:=Nat) (λj=>⟨[(3,.c (.P 1000000 0)),(4,.c (.P 1001000 0)),(5,.c (.P 1002000 0)),(7,.c (.P 2000000 0)),(8,cU x),(9,.c (.X 31001000)),(10,.c (.X 34000000)),(22,cS (.sl .z) l),(23,cI l.length),(24,cI j)],(34000000,.vec 57 (.sl .z) (bL (λi=> !x.testBit i) 0 (l.take j)))::(31001000,.vec 44 .z (jC m [1] (bL x.testBit 0 (l.take j))))::oo::mC l.length a l m fd,35,[]⟩) (λj=>j≤l.length) (λj=>l.length-j) 0 (bK _) ?_ ?_)))))))))
 ·exact s9 34000000 57 (.sl .z) ⟨.inl (sR ae),.inl (sR ae),.inl (sR ae),.inl (sR ae),.inl (sR ae),.inl (sR ae),.inr ⟨ae,ae⟩,.inl (sR ae),.inl (sR ae),.inl (sR ae),ah⟩ ⟨bR ae,bR ae,bR ae,bR ae,bR ae,bR ae,bR ae,bR ae,ah⟩ ae (eO.of ae)
 intro j hj
 refine kr hO ae (qU (xm ae (λh1=>?_) (λh1=>?_)))
 ·have h1:j<l.length:=by have h1:(j:Int)<(l.length:Int):=bc h1;omega
  have hfm:l.getD j []∈l:=JJ;obtain⟨t1,t2,t3⟩:=h.tm x.testBit j;have UC:=h.lm _ hfm;have ej:((j:Int)).toNat=j:=bw j;have Fu:=adV x.testBit l h1;have rV:bL (λi=> !x.testBit i) 0 (l.take (j+1))=bL (λi=> !x.testBit i) 0 (l.take j)++(if(!x.testBit j)=true then[l.getD j []]else[]):=adV (λi=> !x.testBit i) l h1;refine CM (oj (qU (uC (kr hO ae (kr hO ae (xm ae (λh2=>?_) (λh2=>?_)))))))
  ·have h2:x.testBit j=true:=by rw[←adU x j hx af];exact h2
   have hmul:mY Tryz.prog 161 [cS .z (jC m [1] (bL x.testBit 0 (l.take j))),cS .z (l.getD ((j:Int)).toNat []),aZ m] 44 .z (pH (jC m [1] (bL x.testBit 0 (l.take j))) (l.getD j []) m):=by rw[ej];exact apa _ _ m w w (by have:=h.w1;omega) af af t1.1 UC.1.1 jq t3 (h.lB _ hfm) (h.mB.le af)
   refine CN (oC 31001000 ae) (Uz hO (wK ae ae hmul (re ae (AN (oj (kt hO ae (CO (j+1) h1 VI (Wk.trans (wk (st':=⟨[(3,.c (.P 1000000 0)),(4,.c (.P 1001000 0)),(5,.c (.P 1002000 0)),(7,.c (.P 2000000 0)),(8,cU x),(9,.c (.X 38003000)),(10,.c (.X 34000000)),(22,cS (.sl .z) l),(23,cI l.length),(24,cI (j+1:Nat))],[(34000000,.vec 57 (.sl .z) (bL (λi=> !x.testBit i) 0 (l.take (j+1)))),(38003000,.vec 44 .z (jC m [1] (bL x.testBit 0 (l.take (j+1))))),oo,(4002000,.box 3 0 [.I .i64 l.length]),(1000000,.box 57 0 [.S .z a]),(1001000,.box 61 0 [.S (.sl .z) l]),(1002000,.box 44 0 (av .z m)),(2000000,.box 61 0 [.X 3000000]),(3000000,.vec 57 (.sl .z) fd)],41,[]⟩) ⟨sR ae,sR ae,sR ae,sR ae,sR ae,sR ae,sR ae,sR ae,sR ae,sR ae,ah⟩ ⟨bE ae ?_,bE ae ?_,bR ae,bR ae,bR ae,bR ae,bR ae,bR ae,bR ae,ah⟩) (Wk.trans (qq 31001000 38003000 ae ae ae) ck)))))))))
   ·rw[rV,h2];simp;rfl
   ·rw[Fu,h2,aw ae,acP];rfl
  ·have h2:x.testBit j=false:=by rw[←adU x j hx af];exact h2
   have KP:(bL (λi=> !x.testBit i) 0 (l.take j)).length≤8:=by
    have UB:∀(L:List (List Int))(i:Nat),(bL (λi=> !x.testBit i) i L).length≤L.length:=by
     intro L;induction L with
     |nil=>intro i;exact bF _
     |cons f L ih=>
      intro i
      have:=ih (i+1)
      rw[bL]
      split
      ·simp;omega
      ·simp;omega
    exact dG (UB _ _) y7
   refine Uz hO (rl (.sl .z) [l.getD ((j:Int)).toNat []] ae ae (ra ae ae ae ae ae ae ae ae ae ?_ ?_ (re ae (AN (oj (kt hO ae (CO (j+1) h1 VI (Wk.trans (wk (st':=⟨[(3,.c (.P 1000000 0)),(4,.c (.P 1001000 0)),(5,.c (.P 1002000 0)),(7,.c (.P 2000000 0)),(8,cU x),(9,.c (.X 31001000)),(10,.c (.X 38003000)),(22,cS (.sl .z) l),(23,cI l.length),(24,cI (j+1:Nat))],[(38003000,.vec 57 (.sl .z) (bL (λi=> !x.testBit i) 0 (l.take (j+1)))),(31001000,.vec 44 .z (jC m [1] (bL x.testBit 0 (l.take (j+1))))),oo,(4002000,.box 3 0 [.I .i64 l.length]),(1000000,.box 57 0 [.S .z a]),(1001000,.box 61 0 [.S (.sl .z) l]),(1002000,.box 44 0 (av .z m)),(2000000,.box 61 0 [.X 3000000]),(3000000,.vec 57 (.sl .z) fd)],41,[]⟩) ⟨sR ae,sR ae,sR ae,sR ae,sR ae,sR ae,sR ae,sR ae,sR ae,sR ae,ah⟩ ⟨bE ae ?_,bE ae ?_,bR ae,bR ae,bR ae,bR ae,bR ae,bR ae,bR ae,ah⟩) (Wk.trans (qq 34000000 38003000 ae ae ae) ck)))))))))
   ·show((bL (λi=> !x.testBit i) 0 (l.take j)).length+1+((bL (λi=> !x.testBit i) 0 (l.take j)).length+1)/4+192)*24≤_;omega
   ·show((bL (λi=> !x.testBit i) 0 (l.take j)).length+1)*1≤_;omega
   ·rw[rV,h2,ej];rfl
   ·rw[Fu,h2];simp
 ·have h1:j=l.length:=by have h1:¬(j:Int)<(l.length:Int):=bC h1;omega
  subst h1;obtain⟨t1,t2,t3⟩:=h.tm x.testBit l.length;rw[iV]at t1 t2 t3⊢;have qw:(jC m [1] (bL x.testBit 0 l)).map (fj · m)=gS m l x.testBit:=rfl;generalize jC m [1] (bL x.testBit 0 l)=G at*;generalize apv:bL (λi=> !x.testBit i) 0 l=yJ at*;refine I9 (I' (NC (Ja (oj ?_))));refine qU (kr hO ae (uC (Jb (α:=Nat) (λi=>⟨[(3,.c (.P 1000000 0)),(4,.c (.P 1001000 0)),(5,.c (.P 1002000 0)),(7,.c (.P 2000000 0)),(9,.c (.X 31001000)),(10,.c (.X 34000000)),(44,cI G.length),(45,cI i)],(34000000,.vec 57 (.sl .z) yJ)::(31001000,.vec 44 .z (th G m i))::oo::mC l.length a l m fd,37,[]⟩) (λi=>i≤G.length) (λi=>G.length-i) 0 (bK _) (wk ⟨sR ae,sR ae,sR ae,sR ae,sR ae,sR ae,sR ae,sR ae,ah⟩ ⟨bR ae,bE ae ?_,bR ae,bR ae,bR ae,bR ae,bR ae,bR ae,bR ae,ah⟩) ?_)))
  ·rw[acm]
  intro i hi;refine kr hO ae (qU (xm ae (λh1=>?_) (λh1=>?_)))
  ·have h1:i<G.length:=by have h1:(i:Int)<(G.length:Int):=bc h1;omega
   have hnl:=vK G m i;have hg:(th G m i).getD ((i:Int)).toNat 0=G.getD i 0:=by rw[bw,Fk _ _ _ h1,aq af]
   have TM:aG Tryz.prog 164 [aZ ((th G m i).getD ((i:Int)).toNat 0),aZ m] (aZ (fj (G.getD i 0) m)):=by rw[hg];exact ab1 _ m w (by have:=h.w1;omega) jq ((t3 i).sm (by have:=h.w1;omega)) h.mB
   refine CM (oj (qU (uC (kr hO ae (Uz hO (rc ae ae TM (hp:=aR) (lO (T:= .z) (fj (G.getD i 0) m) ae ae ae ae ae ?_ (re ae (AN (oj (kt hO ae (CO (i+1) h1 (by show G.length-(i+1)<G.length-i;omega) (wk ⟨sR ae,sR ae,sR ae,sR ae,sR ae,sR ae,sR ae,sR ae,ah⟩ ⟨bR ae,bE ae ?_,bR ae,bR ae,bR ae,bR ae,bR ae,bR ae,bR ae,ah⟩)))))))))))))
   ·show((i:Int)).toNat<(th G m i).length;rw[bw,hnl];exact h1
   ·refine az (aJ.vec 44 .z) ?_;rw[bw];exact acn G m i h1
  ·have h1:i=G.length:=by have h1:¬(i:Int)<(G.length:Int):=bC h1;omega
   subst h1;rw[aco,qw];refine I9 (I' (NC (Ja (oj ?_))));have hgm:bQ (gS m l x.testBit):=by rw[←qw];exact TZ h.hm t1
   have jr:(gS m l x.testBit).length≤900:=by rw[←qw,dJ];exact t2
   have hgB:∀i,aU w ((gS m l x.testBit).getD i 0):=λi=>by rw[←qw,CB _ jq];exact abX jq h.mB
   have kg:=aok h.am hgm h.la af (by have:=h.w1;omega:w≤100000) (by have:=h.w1;omega:w≤100000) h.aB hgB;subst apv;by_cases hd:Rx.zx (gS m l x.testBit)∣Rx.zx a
   ·rw[show r9 a l m x=true from aps hd];rw[adh hd]at kg;refine CN (oC 31001000 ae) (CQ hO (rc ae ae kg (re ae (kr hO ae (xm ae (λ_=>?_) (λh=>by cases h))))));refine CN (oC 34000000 ae) (CQ hO (rl (.sl .z) [gS m l x.testBit] ae ae (ra ae ae ae ae ae ae ae ae ae ?_ ?_ (EE ar ae ae ae ae ae (Nat.lt_of_sub_eq_succ ae) (re ae (kr hO ae (I9 (ado ?_))))))))
    ·show(fd.length+1+(fd.length+1)/4+192)*24≤_;omega
    ·show(fd.length+1)*1≤_;omega
    exact adl (st':=⟨[],oo::mF l.length a l m fd x,42,[]⟩) (xc (mw 3000000 40003000) ah ⟨bE ae ae,bE ae ae,bE ae ae,bE ae ae,bE ae ae,bE ae ae,bE ae ae,ah⟩ ae (ES ae) (eO.of ae)) (adW ae (by show 1≤42;decide) ae)
   ·rw[show r9 a l m x=false from apt hd];rw[Ul hd]at kg;refine CN (oC 31001000 ae) (CQ hO (rc ae ae kg (re ae (kr hO ae (xm ae (λh=>by cases h) (λ_=>CM (AN (adl (st':=⟨[],oo::mC l.length a l m fd,41,[]⟩) ck (adW ae (by show 1≤41;decide) ae)))))))))
end Go.El
namespace Go.El
open Go
section
variable{P:Program}{tt:TT}
def apz{n:Nat}{ops:Array Oper}{draw:Bool}{nx i d:Nat}{f:FuncId}{first caps:Array Operand}{ty:TypeId}{pos:String}{cJ:Array Edge}{os:List Oper}{sl:List (Nat×AV)}{mem:List (Nat×aJ)}{n0:Nat}{gd:List (Nat×Bool)}{ks:List Ks}{Q:St→Prop}{fs cs:List (Bool×List C)}
  (hf:rD ⟨sl,mem,n0,gd⟩ first.toList=some fs) (hc:rD ⟨sl,mem,n0,gd⟩ caps.toList=some cs)
  (h:∀k,RG P n ops draw nx (i+1) os ⟨(d,.c (.X (1000000*nx+1000*i)))::sl,(1000000*nx+1000*i,.fQ f fs cs)::mem,n0,gd⟩ (ks++[k]) Q) (aV:Nat.blt d n=true:=by rfl):
  RG P n ops draw nx i (⟨some d,.makeFunc (.func f) first caps,ty,pos,cJ,none⟩::os) ⟨sl,mem,n0,gd⟩ ks Q:=
 adO (k:=(_,_)) (λho=>(ahR ho ae ae (cT aV) ae hf hc (1000000*nx+1000*i)).Wx ⟨bF _,by show _<1000000*nx+1000*(i+1);omega⟩) (λkx aS=>by
  obtain⟨x,_,h⟩:=jE.1 aS;exact fY _ x kx h) (by
   funext key;cases key with
   |s t=>
    by_cases e:d=t
    ·subst e;simp[St.kn,ao,dC,a9]
    ·simp[St.kn,ao,dC,a9,e]
   |m j=>
    by_cases e:1000000*nx+1000*i=j
    ·subst e;simp[St.kn,ao,dC,a9]
    ·simp[St.kn,ao,dC,a9,e]) (λ_ h=>h) (λ_ h=>h) (h _)
def apA{fn:Func}{R R':Ending→World→Prop}(h:∀e w,R e w→R' e w){e:Exit}{a:Act}{w:World}(hq:bodyPost P fn R e a w):bodyPost P fn R' e a w:=by
 cases e with
 |normal=>obtain⟨h1,v,h2,h3⟩:=hq;exact⟨h1,v,h2,h _ _ h3⟩
 |ret=>obtain⟨h1,v,h2,h3⟩:=hq;exact⟨h1,v,h2,h _ _ h3⟩
 |panic c=>exact⟨hq.1,h _ _ hq.2⟩
 |outgrown=>exact h _ _ hq
 |_=>exact hq
def adZ(P:Program)(fn:Func)(r:AV)(fm:List (Nat×aJ)):fA:=λF e a W=>bodyPost P fn (λe W'=>∃v g,e= .returned v∧bP g r v∧bJ F (λ_=>True) (St.kn ⟨[],fm,0,[]⟩) g W' {tmps:=Array.replicate F.n undef,defers:=[]}) e a W
def apB(aT:cL P tt=true){n:Nat}{st:St}{fn:Func}{rs:List ResultVar}{r:AV}(hr:tN tt st rs=some r)(fG:fn.results=rs.toArray:=by rfl):fZ n .ret st (adZ P fn r st.mem):=by intro F hF g W a h;obtain⟨u,hu,bU⟩:=Bv aT h fG hr;refine⟨h.defers.trans hF.ds,u,hu,u,g,ae,bU,by simp,hF.ds.symm,?_,λid b hb=>h.c9 id b hb,λid b6 b b' k h1 h2=>h.inj id b6 b b' k h1 h2,λ_ _ _ _ _=>trivial,λ_ _ _=>trivial,h.sub,h.below,h.le,h.fresh,λid al=>⟨ah,(h.iu id al).2⟩⟩;intro t v ht;simp[St.kn,ao]at ht
def apC(ρ:Nat→Nat){n:Nat}{f:FuncId}{fn:Func}{c:Code}{vs:List AV}{k k':Nat}{r:AV}{fm0 fm:List (Nat×aJ)}(hf:P.funcs[f]? =some fn)(hb:fn.body=some c)(hN:fn.ntmps=n)(hle:Nat.ble vs.length n=true)(mm:fH vs=[])(sM:(fn.name != "runtime.NumGoroutine")=true)
  (h:TR P n c ⟨kZ 0 vs,[],0,[]⟩ (adZ P fn (HW ρ r) fm0)) (oE:k≤k') (hri:∀id∈r.aD,k≤id∧id<k') (Jj:∀id b,ao id fm=some b→ao (ρ id) fm0=some (B9 ρ b)∧(k≤id∧id<k')∧∀j∈b.aD,k≤j∧j<k')
  (HY:∀id b6,(ao id fm).isSome=true→(ao b6 fm).isSome=true→ρ id=ρ b6→id=b6):CX P f vs [] k r fm k':=by
 refine⟨by simp[ml,hf,hb,sM],oE,?_⟩
 intro F g W us hn iN hh
 have apD:jo g vs us:=aol vs us 0 us iN (λj hj=>by simp) (λt v ht=>hh.gw t v (by simp[St.kn,ht]))
 have bU:jo ⟨g.H,jb⟩ vs us:=apD.hJ mm
 refine calls_of_wp hf hb ?_
 have hle:=cT hle
 refine wp_mono (h {w0:=W,H0:=g.H,n:=n} ⟨ae,bK _,ae,ae⟩ ⟨g.H,jb⟩ W _ ⟨?_,ae,?_,?_,?_,?_,?_,hh.sub,⟨ae,ae,ae,bF _,λ_ _ _=>rfl⟩,cC.refl _,λ_ _ _ _=>rfl,λ_ h=>absurd h (A3 _)⟩) (λe a W' hq=>?_)
 ·simp[hN];omega
 ·intro t v ht;simp only[St.kn,cq]at ht;obtain⟨x,hx,he⟩:=ht;cases he;obtain⟨_,u,hu,hr,_⟩:=pj vs us 0 bU t v hx;have jh:us[t]? =some u:=C1;have bh:t<us.length:=(v7.1 jh).1;have:(us.toArray++Array.replicate (fn.ntmps-us.toArray.size) undef).getD t undef=u:=by rw[v5,AT FP];simp[jh]
  rw[this];exact hr
 ·intro id b e;simp[St.kn,ao]at e
 ·intro id b6 b b' k e;simp[St.kn,ao]at e
 ·intro k x e id al;cases k with
  |m j=>simp[St.kn,ao]at e
  |s t=>
   simp only[St.kn,cq]at e
   obtain⟨y,hy,he⟩:=e
   subst he
   obtain⟨_,u,_,_,h6⟩:=pj vs us 0 bU t y hy
   have:=h6 id al
   rw[mm]at this
   cases this
 ·intro id x e;simp[St.kn,ao]at e
 refine apA ?_ hq
 rintro e W' ⟨v,g1,rfl,hv,h1⟩
 let g2:Gh:=⟨g1.H,λid=>if id<k then g.γ id else g1.γ (ρ id)⟩
 have oB:iH (λid=>k≤id) ⟨g1.H,λid=>g1.γ (ρ id)⟩ g2:=⟨cC.refl _,λid al=>by show(if id<k then _ else _)=_;rw[aq af]⟩
 have hM:∀id b,(St.kn ⟨[(0,r)],fm,0,[]⟩) (.m id)=some (.b b)→ao id fm=some b:=λid b e=>by simp only[St.kn,cq]at e;obtain⟨x,hx,he⟩:=e;cases he;exact hx
 have hS:∀t u,(St.kn ⟨[(0,r)],fm,0,[]⟩) (.s t)=some (.v u)→t=0∧u=r:=λt u e=>by
  simp only[St.kn,ao,cq]at e;obtain⟨x,hx,he⟩:=e;cases he;split at hx
  ·rename_i e;cases hx;exact⟨e.symm,ae⟩
  ·cases hx
 have hB:∀id b,ao id fm=some b→ji F.N g2 W' id b:=λid b e=>by obtain⟨m1,m2,m3⟩:=Jj id b e;have hr:=h1.c9 (ρ id) (B9 ρ b) (by simp[St.kn,m1]);have p6:=Zw hr;have GY:=p6.step (known:=λid=>k≤id) (chg:=λ_=>False) (g':=g2) (W':=W') ⟨oB,λ_ _ _=>rfl,h1.sub,bF _,λ_ _ _=>rfl,ae,ae,ae⟩ m2.1 (λj hj=>(m3 j hj).1) (λ_ _ h=>h.elim);exact GY.Nz (λx _ _ _ _ hx=> .inl (dG hh.below.size (hx.resolve_right (λh=>h))))
 refine⟨v,g2,ae,ae,hh.defers,?_,λid b e=>hB id b (hM id b e),?_,?_,?_,h1.sub,?_,hh.le.trans h1.le,?_,?_⟩
 ·intro t u e;obtain⟨rfl,rfl⟩:=hS t u e;have:=bP.mono oB (λid al=>(hri id al).1) (Zv hv);simpa[BD]using this
 ·intro id b6 b b' kk e e' hk du;have e:=hM _ _ e;have e':=hM _ _ e';obtain⟨m1,m2,m3⟩:=Jj id b e;obtain⟨n1,n2,n3⟩:=Jj b6 b' e';refine HY id b6 (by rw[e];rfl) (by rw[e'];rfl) (h1.inj (ρ id) (ρ b6) _ _ kk (by simp[St.kn,m1];rfl) (by simp[St.kn,n1];rfl) ?_ ?_)
  ·have:=hk;simp only[g2,aq (show¬id<k by omega)]at this;exact this
  ·have:=du;simp only[g2,aq (show¬b6<k by omega)]at this;exact this
 ·intro key x e id al;cases key with
  |s t=>
   cases x with
   |v u=>obtain⟨rfl,rfl⟩:=hS t u e;exact(hri id al).2
   |b b'=>simp only[St.kn,cq]at e;obtain⟨_,_,he⟩:=e;cases he
  |m j=>
   cases x with
   |v v'=>simp only[St.kn,cq]at e;obtain⟨_,_,he⟩:=e;cases he
   |b b'=>exact((Jj j b' (hM j b' e)).2.2 id al).2
 ·intro id x e;cases x with
  |v v'=>simp only[St.kn,cq]at e;obtain⟨_,_,he⟩:=e;cases he
  |b b'=>exact((Jj id b' (hM id b' e)).2.1).2
 ·exact⟨h1.below.os.trans hh.below.os,h1.below.tape.trans hh.below.tape,h1.below.output.trans hh.below.output,dG hh.below.size h1.below.size,λkk hk ef=>by rw[h1.below.block kk (kl hk hh.below.size) (λh=>h)];exact hh.below.block kk hk ef⟩
 ·intro b o hb ef;show g1.H b o=F.H0 b o;rw[h1.fresh b o (kl hb hh.below.size) (λh=>h)];exact hh.fresh b o hb ef
 ·intro id al;obtain⟨i1,i2⟩:=hh.iu id al;exact⟨kl i1 oE,by show(if id<k then _ else _)=_;rw[aw i1];exact i2⟩
end
end Go.El
namespace Go.El
open Go Go.Proofs
section
variable{n:Nat}{sl sl':List (Nat×AV)}{mem mem':List (Nat×aJ)}{nx:Nat}{gd gd':List (Nat×Bool)}{ops:Array Oper}{draw:Bool}{p:Pr}{ks cj:List Ks}{i i' n0 b7:Nat}
variable{R:St→Prop}{os:List Oper}{d f:Nat}{ty:TypeId}{pos:String}{cJ:Array Edge}{cE:List Oper}
def apE{first caps:Array Operand}{fs cs:List (Bool×List C)}(h:runs eB n nx draw ops.toList os i ⟨sl,mem,n0,gd⟩ .t ks=(⟨some d,.makeFunc (.func f) first caps,ty,pos,cJ,none⟩::cE,i',⟨sl',mem',b7,gd'⟩,p,cj))(hf:rD ⟨sl',mem',b7,gd'⟩ first.toList=some fs)(hc:rD ⟨sl',mem',b7,gd'⟩ caps.toList=some cs)
  (hk:∀k,RG Tryz.prog n ops draw nx (i'+1) cE ⟨(d,.c (.X (1000000*nx+1000*i')))::sl',(1000000*nx+1000*i',.fQ f fs cs)::mem',b7,gd'⟩ (cj++[k]) R)
  (hp:p:=by first|trivial| (simp only[Pr.an,Pr.h,num,aA,true_and,and_true];first|done|omega)) (aV:Nat.blt d n=true:=by rfl):RG Tryz.prog n ops draw nx i os ⟨sl,mem,n0,gd⟩ ks R:=
 jB ar h hp (apz hf hc hk aV)
end
def apF(n:Int):CX Tryz.prog 281 [cI n] [] 4002000 (.c (.X 4002002)) [(4002000,.box 3 0 [.I .i64 n]),(4002002,.fQ 287 [] [(false,[.P 4002000 0])])] 4002004:=by
 refine apC (λid=>if id=4002000 then 0 else if id=4002002 then 1000000 else id) Tryz.func281 ae ae ae ae ak (fm0:=[(1000000,.fQ 287 [] [(false,[.P 0 0])]),(0,.box 3 0 [.I .i64 n])]) ?_ ak ?_ ?_ ?_
 ·exact rr ae (rb (apE ae ae ae (λk=>re ae (aF (apB ar ae)))))
 ·intro id h;have h:id∈[4002002]:=h;simp at h;omega
 ·intro id b h;simp only[ao]at h;split at h
  ·rename_i e;subst e;cases h;exact⟨ae,by decide,λj hj=>by cases hj⟩
  ·split at h
   ·rename_i e;subst e;cases h;exact⟨ae,by decide,λj hj=>by simp[aJ.aD,fE,cA,C.aD]at hj;omega⟩
   ·cases h
 ·intro id b6 h h' e;have key:∀j,(ao j [(4002000,aJ.box 3 0 [.I .i64 n]),(4002002,.fQ 287 [] [(false,[.P 4002000 0])])]).isSome=true→j=4002000∨j=4002002:=λj hj=>by
   simp only[ao]at hj;split at hj
   ·omega
   ·split at hj
    ·omega
    ·cases hj
  rcases key id h with rfl|rfl<;>rcases key b6 h' with rfl|rfl<;>first|rfl| (revert e;decide)
def apG{sl:List (Nat×AV)}{mem fI:List (Nat×aJ)}{n0:Nat}{gd:List (Nat×Bool)}{d:Nat}{r:AV}{k:Nat}(hk:∀id b,ao id fI=some b→k≤id):St.kn ⟨(d,r)::sl,fI++mem,n0,gd⟩=dC (St.kn ⟨sl,mem,n0,gd⟩) ((.s d,some (.v r))::tS k fI):=by
 funext key;cases key with
 |s t=>
  by_cases e:d=t
  ·subst e;simp[St.kn,ao,dC,a9]
  ·simp[St.kn,ao,dC,a9,e,G3]
 |m j=>
  simp only[St.kn,dC,a9,G4,yz]
  cases h:ao j fI with
  |none=>simp
  |some b=>simp[hk j b h]
section
variable{n:Nat}{sl sl':List (Nat×AV)}{mem mem':List (Nat×aJ)}{nx:Nat}{gd gd':List (Nat×Bool)}{ops:Array Oper}{draw:Bool}{p:Pr}{ks cj:List Ks}{i i' n0 b7:Nat}
variable{R:St→Prop}{os:List Oper}{d f:Nat}{args:Array Operand}{di:Array TypeId}{ty:TypeId}{pos:String}{cJ:Array Edge}{cE:List Oper}{vs:List AV}{r:AV}{fI:List (Nat×aJ)}{k':Nat}
def rcN(h:runs eB n nx draw ops.toList os i ⟨sl,mem,n0,gd⟩ .t ks=(⟨some d,.call ⟨.value (.func f),args,di⟩,ty,pos,cJ,none⟩::cE,i',⟨sl',mem',b7,gd'⟩,p,cj))(hv:kB ⟨sl',mem',b7,gd'⟩ args.toList=some vs)(hf:CX Tryz.prog f vs [] (1000000*nx+1000*i') r fI k')
  (du:k'≤1000000*nx+1000*(i'+1)) (dM:∀id∈r.aD,1000000*nx+1000*i'≤id) (hi:∀id b,ao id fI=some b→1000000*nx+1000*i'≤id) (u7:∀id b,ao id fI=some b→∀j∈b.aD,1000000*nx+1000*i'≤j)
  (hk:∀k,RG Tryz.prog n ops draw nx (i'+1) cE ⟨(d,r)::sl',fI++mem',b7,gd'⟩ (cj++[k]) R)
  (hp:p:=by first|trivial| (simp only[Pr.an,Pr.h,num,aA,true_and,and_true];first|done|omega)) (hm:fH vs=[]:=by rfl) (aV:Nat.blt d n=true:=by rfl):RG Tryz.prog n ops draw nx i os ⟨sl,mem,n0,gd⟩ ks R:=
 jB ar h hp (adO (k:=(_,_)) (λho=>ao8 ho ae ae (cT aV) ae hv hm hf du dM u7) (λkx aS=>by obtain⟨x,_,h⟩:=jE.1 aS;exact fY _ x kx h) (apG hi) (λ_ h=>h) (λ_ h=>h) (hk _))
end
def apI{n:Nat}{st:St}{O:vR}{Q:fA}(h:gH n .ret st O Q):gH n .ret st O (λF=>Exit.noGoto (Q F)):=h
open Classical in
def apJ{a:List Int}{l:List (List Int)}{m:Int}{S:Nat}(h:r9 a l m S=true):Rx.zx (gS m l S.testBit)∣Rx.zx a:=bc h
def apK{n:Nat}{st stB:St}(hw:Wk st stB):gH n .normal st xn (λF e a W=>e= .normal∧∃g,bJ (F.dr []) (kb stB) stB.kn g W a):=λF _ gM ds g W a hh hO=>by have Ji:ds=[]:=hO;subst Ji;obtain⟨g',h'⟩:=hw (F.dr []) gM g W a hh;exact⟨ae,g',h'⟩
def ad1(b:Nat→Bool):∀(l:List (List Int))(i:Nat),iS (bL b i l)≤iS l
 |[],_=>bF _
 |x::l,i=>by
  have:=ad1 b l (i+1);rw[bL];split
  ·simp only[iS];omega
  ·simp only[iS];omega
def yP.next{p:Nat}{a:List Int}{l:List (List Int)}{m:Int}{w:Nat}(h:yP a l m w)(hc:g7 p m a l){S:Nat}(hS:S∈iD l.length)(hd:Rx.zx (gS m l S.testBit)∣Rx.zx a):yP (qT a (gS m l S.testBit)) (bL (λi=> !S.testBit i) 0 l) m w:=by
 obtain⟨r1,r2,r3,r4⟩:=hc.rest hS hd;have Tp:Rx.zx (qT a (gS m l S.testBit))∣Rx.zx a:=by rw[r1];exact Rx.dvd_mul_left _ _
 refine⟨r2.am,?_,by have:=h.ln;omega,λf hf=>h.lm f (xl hf),h.hm,h.w1,h.w0,h.mB,λi=>?_,λf hf=>h.lB f (xl hf)⟩
 ·have e1:=r2.len;have e2:=hc.len;have e3:=ad1 (λi=> !S.testBit i) l 0;have:=h.la;omega
 ·have h1:=hc.bd _ r2.am Tp i;have h2:=h.mB;unfold aU at*;omega
set_option maxRecDepth 100000 in
set_option maxHeartbeats 16000000 in
def apL{p:Nat}{a:List Int}{l:List (List Int)}{m:Int}{w:Nat}(h:yP a l m w)(hc:g7 p m a l)(hl:l≠[]):aG Tryz.prog 257 [cS .z a,cS (.sl .z) l,aZ m] (cS (.sl .z) (tj m l.length a l)):=by
 refine ao' (nx:=1) (n:=75) ae ae ae ae ae ae ae ?_;refine kr NH ae (aot (kr NH ae (qU (aor (oj ?_)))));refine uC (Jb (α:=List (List Int)×List Int×List (List Int)) (λs=>⟨qV vS,[(3000000,.vec 57 (.sl .z) s.1),(1000000,.box 57 0 [.S .z s.2.1]),(1001000,.box 61 0 [.S (.sl .z) s.2.2]),(1002000,.box 44 0 (av .z m)),(2000000,.box 61 0 [.X 3000000])],4,[]⟩) (λs=>yP s.2.1 s.2.2 m w∧g7 p m s.2.1 s.2.2∧s.2.2≠[]∧(∃k,s.2.2.length≤k∧s.1++tj m k s.2.1 s.2.2=tj m l.length a l)∧s.1.length+s.2.2.length≤8) (λs=>s.2.2.length) ([],a,l) ⟨h,hc,hl,⟨l.length,bF _,ae⟩,by have:=h.ln;simpa using this⟩ (apc 3000000 57 (.sl .z) ⟨sR ae,sR ae,sR ae,sR ae,ah⟩ ⟨.inl (bR ae),.inl (bR ae),.inl (bR ae),.inr ⟨_,_,ae,ae⟩,ah⟩ ae (eO.of ae)) ?_);generalize hR:tj m l.length a l=R;clear h hc hl;rintro⟨fd,a,l⟩ ⟨h,hc,hl,⟨k,hk,he⟩,hn⟩;dsimp only at h hc hl hk he hn⊢;refine uC (qU (CQ NH ?_));refine rcN ae ae (apF _) ak (λid al=>?_) (λid b hb=>?_) (λid b hb j hj=>?_) (λ_=>re ae ?_)
 ·rw[jw.1 al];decide
 ·have:=AO hb;simp only[dx,cD,OU,or_false]at this;rcases this with⟨rfl,_⟩|⟨rfl,_⟩<;>decide
 ·have:=AO hb;simp only[dx,cD,OU,or_false]at this;rcases this with⟨rfl,rfl⟩|⟨rfl,rfl⟩
  ·cases hj
  ·rw[jw.1 hj];decide
 refine uC ?_;refine CN (st':=⟨(18,.c (.X 4002002))::qV vS,(4002002,.fQ 287 [] [(false,[.P 4002000 0])])::mC l.length a l m fd,5,[]⟩) ck ?_;have iv:vP m a l=(iD l.length).find? (r9 a l m):=rfl;have et:∀{L:List (Nat×aJ)},((L.map Prod.fst).contains 0||(L.map λx=>x.2.aD.contains 0).contains true)=false→∀id b,ao id L=some b→id≠0∧0∉b.aD:=λ{L} hL id b hb=>by
  have hm:=AO hb;rw[Bool.or_eq_false_iff]at hL;refine⟨λe=>?_,λe=>?_⟩
  ·subst e;have:(L.map Prod.fst).contains 0=true:=by rw[V0];exact List.mem_map_of_mem (f:=Prod.fst) hm
   rw[hL.1]at this;cases this
  ·have:(L.map λx=>x.2.aD.contains 0).contains true=true:=by rw[V0];exact nQ.2 ⟨_,hm,by rw[V0];exact e⟩
   rw[hL.2]at this;cases this
 have ad2:∀x id b,ao id (mF l.length a l m fd x)=some b→id≠0∧id<5000000∧∀j∈b.aD,j<5000000:=λx id b hb=>by have h1:=(eO.of (K:=5000000) (m:=mF l.length a l m fd x) ae) id b hb;exact⟨(et ae id b hb).1,h1⟩
 have apM:∀id b,ao id (mC l.length a l m fd)=some b→id≠0∧id<5000000∧∀j∈b.aD,j<5000000:=λid b hb=>by have h1:=(eO.of (K:=5000000) (m:=mC l.length a l m fd) ae) id b hb;exact⟨(et ae id b hb).1,h1⟩
 refine aoU (n0:=75) (nI:=27) (p:=19) (cid:=4002002) (f:=287) (capsI:=NM) (wsI:=[.c (.P 4002000 0)]) (Sc:=vS) (M:=mC l.length a l m fd) (Mo:=match(iD l.length).find? (r9 a l m)with|none=>mC l.length a l m fd|some S=>mF l.length a l m fd S) (bo:=((iD l.length).find? (r9 a l m)).isNone) (xid:=1) ae ae ae ae ae ae ae ae (show 1+1≤27 by decide) (show 1≤5 by decide) (show 19<75 by decide) ae ae ?_ ae ?_ ?_ ?_ ?_ ?_ ?_
 ·intro s hs;simp only[vS,dx,OU,or_false]at hs;rcases hs with rfl|rfl|rfl|rfl<;>rfl
 ·intro t v ht hv;have:=AO ht;simp only[qV,vS,jF,Ge,dx,cD,OU,or_false]at this;rcases this with⟨_,rfl⟩|⟨_,rfl⟩|⟨_,rfl⟩|⟨_,rfl⟩|⟨_,rfl⟩<;>exact absurd (jw.1 hv) ak
 ·intro id b hb;refine(bH (λe=>?_)).trans hb;subst e;cases hb
 ·exact et ae
 ·intro id b hb;split at hb
  ·exact apM id b hb
  ·exact ad2 _ id b hb
 ·intro R ok e1 e2 e3 e4 e5 e6;have hit:=apk (R:=R) ok e3 e2 (n:=l.length) (a:=a) (l:=l) (m:=m) (fd:=fd) h.ln (good:=r9 a l m) (Mo:=λx=>mF l.length a l m fd x) (nxr:=30) ae (λx=>ad2 x) (λx hx=>⟨⟨[(8,cU x),(3,.c (.P 1000000 0)),(4,.c (.P 1001000 0)),(5,.c (.P 1002000 0)),(7,.c (.P 2000000 0))],oo::mC l.length a l m fd,31,[]⟩,by show 1≤31;decide,by
   rw[e1,e2,e4,e5];exact kt adu ae (apK ck),by
   rw[e1,e6];have hr:=apu h (fd:=fd) af (x:=x) (by have h1:=(yM.1 hx).1;have h2:2^l.length≤2^8:=jP ak h.ln;omega) ae;cases hg:r9 a l m x<;>rw[hg]at hr<;>exact hr⟩) ae
  cases hf:(iD l.length).find? (r9 a l m)<;>rw[hf]at hit<;>exact hit
 ·cases hf:(iD l.length).find? (r9 a l m)with
  |none=>
   have cw:tj m k a l=[a]:=by
    cases k with
    |zero=>rfl
    |succ k=>rw[tj,iv,hf]
   rw[←he,cw]
   refine AN (oj (CQ NH (rl (.sl .z) [a] ae ae (ra ae ae ae ae ae ae ae ae ae ?_ ?_ (re ae ?_)))))
   ·show(fd.length+1+(fd.length+1)/4+192)*24≤_;omega
   ·show(fd.length+1)*1≤_;omega
   refine CN (st':=⟨[(6,.c (.X 5003000))],[(5003000,.vec 57 (.sl .z) (fd++[a]))],6,[]⟩) ck (CN (oC 5003000 ae) (adk (Fq (aos (Fq (apI (ao9 ar ae (au.refl _))))))))
  |some S=>
   have hS:S∈iD l.length:=List.mem_of_find?_eq_some hf
   have hd:Rx.zx (gS m l S.testBit)∣Rx.zx a:=apJ (List.find?_some hf)
   obtain⟨r1,r2,r3,r4⟩:=hc.rest hS hd
   refine ado (I' (Ja (CO (fd++[gS m l S.testBit],qT a (gS m l S.testBit),bL (λi=> !S.testBit i) 0 l) ⟨h.next hc hS hd,r2,r3,?_,?_⟩ r4 ck)))
   ·cases k with
    |zero=>exact absurd (ik af) hl
    |succ k=>
     refine⟨k,by show(bL (λi=> !S.testBit i) 0 l).length≤k;omega,?_⟩
     rw[←he,tj,iv,hf]
     show(fd++[gS m l S.testBit])++_=_
     rw[nj];rfl
   ·show(fd++[gS m l S.testBit]).length+(bL (λi=> !S.testBit i) 0 l).length≤8;rw[ko];show fd.length+1+_≤8;omega
end Go.El
namespace Go.El
open Go Go.Proofs Fx
structure dF(p:Nat)(a:List Int):Prop where
 H:bI p
 am:bQ a
 l2:2≤a.length
 l9:a.length≤9
 co:Co (fx a:Fx p) (bG (fx a))
def ad4:∀(l m:List (List Int)),ll (l++m)=ll l*ll m
 |[],m=>by rw[wh,ll,PS.one_mul]
 |f::l,m=>by rw[mQ,ll,ll,ad4 l m];ac_rfl
def ad5:∀(l m:List (List Int)),iS (l++m)=iS l+iS m
 |[],m=>by rw[wh,iS,eR]
 |f::l,m=>by rw[mQ,iS,iS,ad5 l m];omega
def UD(F:Nat→List Int):∀r,ll ((List.range r).map F)=fv (λi=>ps (F i)) r
 |0=>rfl
 |r+1=>by rw[pW,dZ,ad4,UD F r,fv,jF,Ge,ll,ll,PS.mul_one]
def NO(F:Nat→List Int):∀r,iS ((List.range r).map F)=og (λi=>(F i).length-1) r
 |0=>rfl
 |r+1=>by rw[pW,dZ,ad5,NO F r,og,jF,Ge,iS,iS,j6]
def NP(L:List (List Int)):(List.range L.length).map (λi=>L.getD i [])=L:=by
 refine nP be λi h1 h2=>?_
 rw[si,A0,aY,ct h2];rfl
def ad6{p:Nat}:∀l:List (List Int),jT p l=iC l
 |[]=>rfl
 |f::l=>by rw[jT,iC,ad6 l]
def ad7{p:Nat}(H:bI p):∀{l:List (List Int)},(∀g∈l,cp (fx g:Fx p))→k9 (iC l:Fx p)→l.Pairwise (λx y=>Co (fx x:Fx p) (fx y))
 |[],_,_=>List.Pairwise.nil
 |x::l,h,hs=>by
  have key:∀{l:List (List Int)}{y:List Int},y∈l→(fx y:Fx p)∣iC l:=by
   intro l;induction l with
   |nil=>intro f hf;cases hf
   |cons y l ih=>
    intro f hf
    rcases dx.1 hf with rfl|hf
    ·exact⟨iC l,by rw[iC,mul_comm]⟩
    ·obtain⟨w,hw⟩:=ih hf;exact⟨fx y*w,by rw[iC,hw,mul_assoc]⟩
  refine jZ.2 ⟨λy hy=>?_,ad7 H (λg hg=>h g (by simp[hg])) (hs.of_dvd ⟨fx x,ae⟩)⟩;have hx:=h x be;refine Ap H (λe=>by have:=hx.1;rw[e,kQ H.pos]at this;omega) λQ hQ d1 d2=>hs Q hQ ?_
  obtain⟨u,hu⟩:=d1;obtain⟨v,hv⟩:=dvd_trans d2 (key hy);refine⟨u*v,?_⟩;show fx x*iC l=_;rw[hu,hv];ac_rfl
section
variable{p:Nat}{a:List Int}
def dF.p1(h:dF p a):1<(p:Int):=by have:=h.H.hp.1;omega
def dF.trim(h:dF p a):a6 (md p a)=md p a:=(h.am.md h.p1).trim
def dF.f(h:dF p a):Mon p (md p a)∧(md p a).length=a.length∧(fx (md p a):Fx p)=fx a:=by refine⟨⟨?_,(h.am.md h.p1).1,(h.am.md h.p1).2⟩,yo _ _,R0 a⟩;rw[←h.trim];exact nC h.H.pos (BY h.H.pos a)
def dF.ne(h:dF p a):(fx a:Fx p)≠0:=λe=>by have:=vM h.H h.am;rw[e,kQ h.H.pos]at this;have:=h.l2;omega
def dF.vv(h:dF p a):k9 (fx a:Fx p):=by obtain⟨U,V,e⟩:=h.co;exact Zp h.H h.ne (D:=1) (U:=U) (V:=V) (mul_one _).symm e.symm
noncomputable def dF.Ls(h:dF p a):List (List Int):=nH h.H (md p a)
def dF.mK(h:dF p a):Ms p (md p a) h.Ls:=by obtain⟨f1,f2,f3⟩:=h.f;exact SX h.H f1 (by have:=h.l2;omega) (by have:=h.l9;omega) (by rw[f3];exact h.vv)
def dF.UE(h:dF p a):(fx a:Fx p)=iC h.Ls:=by rw[←ad6,h.mK.prod,h.f.2.2]
def dF.UF(h:dF p a):∀f∈h.Ls,bQ f:=λf hf=>⟨(h.mK.parts f hf).1.ne,(h.mK.parts f hf).1.one⟩
def dF.pair(h:dF p a):h.Ls.Pairwise (λx y=>Co (fx x:Fx p) (fx y)):=ad7 h.H (λg hg=>(h.mK.parts g hg).2.2) (by rw[←h.UE];exact h.vv)
def dF.dg(h:dF p a):a.length=1+iS h.Ls:=by obtain⟨t1,t2⟩:=AJ h.p1 CC h.UF;rw[←vM h.H h.am,h.UE,←AK h.Ls p (J7 _),vM h.H t1,t2];rfl
def ad8:∀{l:List (List Int)},(∀f∈l,2≤f.length)→l.length≤iS l∧∀f∈l,f.length≤1+iS l
 |[],_=>⟨bF _,λf hf=>by cases hf⟩
 |x::l,h=>by
  obtain⟨i1,i2⟩:=ad8 (l:=l) λf hf=>h f (by simp[hf])
  have:=h x be;refine⟨by rw[fk,iS];omega,λf hf=>?_⟩;rw[iS];rcases dx.1 hf with rfl|hf
  ·omega
  ·have:=i2 f hf;omega
def dF.two(h:dF p a):∀f∈h.Ls,2≤f.length:=λf hf=>(h.mK.parts f hf).2.1
def dF.r8(h:dF p a):h.Ls.length≤8∧∀f∈h.Ls,f.length≤9:=by obtain⟨i1,i2⟩:=ad8 h.two;have:=h.dg;have:=h.l9;exact⟨by omega,λf hf=>by have:=i2 f hf;omega⟩
def dF.Lne(h:dF p a):h.Ls≠[]:=λe=>by have h1:=h.dg;rw[e]at h1;have:=h.l2;rw[h1]at this;exact absurd this ak
def dF.at(h:dF p a){i:Nat}(hi:i<h.Ls.length):h.Ls.getD i []∈h.Ls:=by rw[aY,ct hi];exact mO hi
def dF.wU(h:dF p a){i j:Nat}(hi:i<h.Ls.length)(hj:j<h.Ls.length)(aN:j≠i):gi p (ps (h.Ls.getD j [])) (ps (h.Ls.getD i [])):=by
 refine Zh.1 ?_;have e:∀k,k<h.Ls.length→h.Ls.getD k []=h.Ls[k]! :=λk hk=>by simp[aY,hk]
 have hp:=OG.1 h.pair;have g:∀k(hk:k<h.Ls.length),h.Ls.getD k []=h.Ls[k]:=λk hk=>by rw[aY,ct hk];rfl
 rw[g i hi,g j hj];rcases V7 aN with bh|bh
 ·exact hp j i hj hi bh
 ·exact(hp i j hi hj bh).symm
def dF.liH(h:dF p a):tf p (λi=>h.Ls.getD i []) h.Ls.length:=by
 obtain⟨r1,r2⟩:=h.r8;have hc:∀j,j<h.Ls.length→bV p (h.Ls.getD j []):=λj hj=>(h.mK.parts _ (h.at hj)).1.c
 refine⟨h.H.hp,h.H.le,by omega,hc,λi hi=>h.two _ (h.at hi),λi hi=>by have:=r2 _ (h.at hi);omega,λi hi=>?_⟩;exact acw h.H.hp h.H.le hi hc (h.UF _ (h.at hi)).1 (λj hj aN=>h.wU hi hj aN) _ (bF _)
def dF.ft(h:dF p a):a.length=(ft (λi=>h.Ls.getD i []) p h.Ls.length).length:=by rw[TX _ _ _ (λi hi=>by have:=h.two _ (h.at hi);omega),←NO (λi=>h.Ls.getD i []) h.Ls.length,NP,h.dg,J4]
def dF.NQ(h:dF p a):vL p a (λi=>h.Ls.getD i []) h.Ls.length:=by
 refine⟨h.liH,λi hi=>h.UF _ (h.at hi),λi hi=>?_,h.am,h.ft,?_⟩
 ·have key:∀n,n≤i→gi p (fv (λj=>ps (h.Ls.getD j [])) n) (ps (h.Ls.getD i [])):=by
   intro n;induction n with
   |zero=>intro _;exact gi.one _
   |succ n ih=>
    intro hn
    exact(ih af).mul (h.wU hi af af) (Nk n λj _=>aW.ps _ _)
  exact key i (bF _)
 ·rw[←UD (λi=>h.Ls.getD i []) h.Ls.length,NP];have e:(fx a:Fx p)=iC h.Ls:=h.UE;rw[CE]at e;exact mk_eq.1 e
end
def aea(a:List Int):∀n,((nB a n:Nat):Int)=sm (λi=>((a.getD i 0).natAbs:Int)) n
 |0=>rfl
 |n+1=>by rw[nB,sm,←aea a n,ze]
def aeb{a:List Int}(am:bQ a){g:List Int}(gm:bQ g)(hd:Rx.zx g∣Rx.zx a)(i:Nat):(g.getD i 0).natAbs≤ff a:=by
 obtain⟨k,hk⟩:=hd;have CG:Rx.Mo k:=by have:=Rx.oe am;rw[hk]at this;exact this.Cr (Rx.oe gm)
 obtain⟨i1,_⟩:=Rx.T8 CG (Rx.oe gm) (hk▸Rx.CA a);obtain⟨q,q1,q2⟩:=Rx.Nd i1;subst q2;have qm:bQ q:=Rx.Nf q1 CG;have Ah:=Rx.Ng hk.symm;have l1:=cX.2 qm.1;have l2:=cX.2 gm.1;have l3:=cX.2 am.1;have hs:=Rx.eK CG.ne (Rx.oe gm).ne;rw[←hk,Rx.mL am.can,Rx.mL q1,Rx.mL gm.can]at hs;have hb:=Rx.abO (A:=ps g) (B:=ps q) (k:=g.length-1) (l:=q.length-1) (λj hj=>dz g af) (λj hj=>dz q af) (by rw[dS,qm.2];decide) i;rw[PS.mul_comm,Ah,show g.length-1+(q.length-1)=a.length-1 by omega]at hb;have hn:Rx.vH (a.length-1) (ps a)=((nB a a.length:Nat):Int):=by rw[aea,Rx.vH,show a.length-1+1=a.length by omega];rfl
 rw[hn]at hb;have e:((ff a:Nat):Int)=2^(a.length-1)*((nB a a.length:Nat):Int):=by rw[ff,gq,uK,fc];rfl
 rw[←e,dS]at hb;omega
section
variable{p:Nat}{a:List Int}
noncomputable def dF.lf(h:dF p a)(k:Nat):List (List Int):=AF p a (λi=>h.Ls.getD i []) h.Ls.length k
def dF.Fv(h:dF p a)(k:Nat):(h.lf k).length=h.Ls.length:=by simp[dF.lf,AF]
def dF.aec(h:dF p a){k:Nat}(hk:1≤k){i:Nat}(hi:i<h.Ls.length)(o0:i<(h.lf k).length):bQ (h.lf k)[i]∧(h.lf k)[i].length=(h.Ls.getD i []).length∧(fx (h.lf k)[i]:Fx p)=fx (h.Ls.getD i [])∧∀j,(h.lf k)[i].getD j 0=fj ((cQ p a (λi=>h.Ls.getD i []) h.Ls.length (k-1) i).getD j 0) ((p:Int)^k):=by
 obtain⟨s,rfl⟩:∃s,k=s+1:=⟨k-1,by omega⟩;have hh:=h.NQ;have h1:=hh.pw s;obtain⟨o1,o2⟩:=hh.one s hi;have e:(h.lf (s+1))[i]=(cQ p a (λi=>h.Ls.getD i []) h.Ls.length s i).map (fj · ((p:Int)^(s+1))):=by simp[dF.lf,AF]
 rw[e];refine⟨TZ h1 o2,by rw[dJ,o1],?_,λj=>CB _ af j⟩;have:=hh.image s hi;rw[←this,wZ,R0]
def dF.apN(h:dF p a){k:Nat}(hk:1≤k):(h.lf k).map (fx (p:=p))=h.Ls.map fx:=by
 refine nP (by simp[h.Fv]) λi h1 h2=>?_
 rw[si,si];have hi:i<h.Ls.length:=gR;rw[(h.aec hk hi (by rw[h.Fv];exact hi)).2.2.1,aY,ct hi];rfl
def dF.NR(h:dF p a){k:Nat}(hk:1≤k){f:List Int}(hf:f∈h.lf k):∃i,∃hi:i<h.Ls.length,bQ f∧f.length=(h.Ls.getD i []).length∧(fx f:Fx p)=fx (h.Ls.getD i [])∧∀j,f.getD j 0=fj ((cQ p a (λi=>h.Ls.getD i []) h.Ls.length (k-1) i).getD j 0) ((p:Int)^k):=by
 obtain⟨i,hi,rfl⟩:=V2 hf;have uZ:i<h.Ls.length:=by rw[←h.Fv k];exact hi
 exact⟨i,uZ,h.aec hk uZ hi⟩
def dF.cbH(h:dF p a){k:Nat}(hk:1≤k)(hb:2*ff a<p^k):g7 p ((p:Int)^k) a (h.lf k):=by
 refine⟨h.H,⟨k,hk,ae⟩,h.am,λf hf=>?_,λf hf=>?_,?_,?_,h.vv,?_,λg g1 g2 i=>?_⟩
 ·obtain⟨i,hi,h1,_⟩:=h.NR hk hf;exact h1
 ·obtain⟨i,hi,_,_,h3,_⟩:=h.NR hk hf;rw[h3];exact(h.mK.parts _ (h.at hi)).2.2
 ·have h1:(h.Ls.map (fx (p:=p))).Pairwise Co:=JX.2 h.pair;rw[←h.apN hk]at h1;exact JX.1 h1
 ·obtain⟨s,rfl⟩:∃s,k=s+1:=⟨k-1,by omega⟩;have hh:=h.NQ;refine(hh.all s).2.2.trans ?_;show Cg _ _ (ll ((List.range h.Ls.length).map λi=>(cQ p a (λi=>h.Ls.getD i []) h.Ls.length s i).map (fj · ((p:Int)^(s+1)))));rw[UD];refine Nj _ λi hi=>Cg.of λj=>?_
  have h1:=hh.pw s;show(cQ p a (λi=>h.Ls.getD i []) h.Ls.length s i).getD j 0%_=((cQ p a (λi=>h.Ls.getD i []) h.Ls.length s i).map (fj · ((p:Int)^(s+1)))).getD j 0%_;rw[CB _ af,TY af]
 ·rw[h.dg];refine az (1+·) ?_;show _=iS ((List.range h.Ls.length).map λi=>(cQ p a (λi=>h.Ls.getD i []) h.Ls.length (k-1) i).map (fj · ((p:Int)^k)));rw[NO,←NP h.Ls,NO];rw[NP];refine acJ _ λi hi=>?_
  rw[dJ,(h.NQ.one (k-1) hi).1]
 ·have:=aeb h.am g1 g2 i;have e:((p^k:Nat):Int)=(p:Int)^k:=uK p k;rw[←e];omega
end
def qW(p:Nat)(a:List Int):Bool:=decide ((gh p (a6 (md p a)) (a6 (fq p (a6 (md p a))))).length=1)
def aee{p:Nat}(H:bI p)(a:List Int):qW p a=true↔Co (fx a:Fx p) (bG (fx a)):=by
 have hf:bV p (a6 (md p a)):=nC H.pos (BY H.pos a);have hd:bV p (a6 (fq p (a6 (md p a)))):=nC H.pos (Mu xw _);have e1:(fx (a6 (md p a)):Fx p)=fx a:=by rw[wZ,R0]
 have e2:(fx (a6 (fq p (a6 (md p a)))):Fx p)=bG (fx a):=by rw[wZ,S2,e1]
 unfold qW;rw[decide_eq_true_iff,RN H.hp H.le hf hd,←Zh,e1,e2]
def UG(p b:Nat)(hp:2≤p):∃k,1≤k∧b<p^k∧∀j,1≤j→j<k→p^j≤b:=by
 have h1:∀n,n<p^n:=λn=>kl Nat.lt_two_pow_self (F6 hp n)
 have key:∀n,(∀j,1≤j→j<n+1→p^j≤b)∨∃k,1≤k∧b<p^k∧∀j,1≤j→j<k→p^j≤b:=by
  intro n;induction n with
  |zero=>exact .inl λj a b=>by omega
  |succ n ih=>
   rcases ih with ih|ih
   ·by_cases h:p^(n+1)≤b
    ·refine .inl λj h1 h2=>?_
     by_cases e:j=n+1
     ·rw[e];exact h
     ·exact ih j h1 af
    ·exact .inr ⟨n+1,by omega,by omega,ih⟩
   ·exact .inr ih
 rcases key (b+1)with h|h
 ·have:=h (b+1) af af;have:=h1 (b+1);omega
 ·exact h
open Classical in
noncomputable def ls(p b:Nat):Nat:=if hp:2≤p then Classical.choose (UG p b hp)else 1
def Jk{p:Nat}(hp:2≤p)(b:Nat):1≤ls p b∧b<p^ls p b∧∀j,1≤j→j<ls p b→p^j≤b:=by have e:ls p b=Classical.choose (UG p b hp):=dif_pos hp;rw[e];exact xy (UG p b hp)
structure oq(a:List Int):Prop where
 am:bQ a
 l2:2≤a.length
 l9:a.length≤9
 aB:∀i,aU 6 (a.getD i 0)
 ex:∃p∈gD,Co (fx a:Fx p) (bG (fx a))
def NS{p:Nat}(h:p∈gD):bI p:=⟨MU h,by have:=(vI h).2;omega⟩
def oq.md{a:List Int}(h:oq a){p:Nat}(hp:p∈gD)(hg:qW p a=true):dF p a:=⟨NS hp,h.am,h.l2,h.l9,(aee (NS hp) a).1 hg⟩
def oq.vP{a:List Int}(h:oq a):∃p,gD.find? (qW · a)=some p∧p∈gD∧qW p a=true:=by
 obtain⟨p,hp,hc⟩:=h.ex;have hg:=(aee (NS hp) a).2 hc;cases hf:gD.find? (qW · a)with
 |none=>exact absurd hg (by simpa using JU.1 hf p hp)
 |some q=>exact⟨q,ae,List.mem_of_find?_eq_some hf,by simpa using List.find?_some hf⟩
open Classical in
noncomputable def uD(a:List Int):List (List Int):=
 if a.length=2 then[a]else
 match gD.find? (qW · a)with
 |some p=>if h:dF p a then tj ((p:Int)^ls p (2*ff a)) (h.lf (ls p (2*ff a))).length a (h.lf (ls p (2*ff a)))else[]
 |none=>[]
def aef{a:List Int}(h:a.length=2):uD a=[a]:=aw h
def aeg{a:List Int}{p:Nat}(h:dF p a)(h2:a.length≠2)(hf:gD.find? (qW · a)=some p):uD a=tj ((p:Int)^ls p (2*ff a)) (h.lf (ls p (2*ff a))).length a (h.lf (ls p (2*ff a))):=by unfold uD;rw[aq h2,hf];exact dif_pos h
def aeh{A:Rx}(h:Rx.sz A=2):Rx.cp A:=by
 refine⟨by omega,λX Y e=>?_⟩;have hA:A≠0:=λe=>by rw[e,Rx.kQ]at h;omega
 have hX:X≠0:=λe2=>hA (by rw[e,e2,Rx.zero_mul])
 have hY:Y≠0:=λe2=>hA (by rw[e,e2,Rx.mul_zero])
 have h3:=Rx.eK hX hY;rw[←e,h]at h3;have:=Rx.eN hX;have:=Rx.eN hY;omega
def aei{a:List Int}(h:oq a):(∀r∈uD a,bQ r∧Rx.cp (Rx.zx r))∧Rx.rY (uD a)=Rx.zx a:=by
 by_cases h2:a.length=2
 ·rw[aef h2];refine⟨λr hr=>?_,Rx.mul_one _⟩;rw[jw.1 hr];exact⟨h.am,aeh (by rw[Rx.mL h.am.can];exact h2)⟩
 ·obtain⟨p,f1,f2,f3⟩:=h.vP;have hm:=h.md f2 f3;obtain⟨k1,k2,k3⟩:=Jk (p:=p) (by have:=(vI f2).1;omega) (2*ff a);rw[aeg hm h2 f1];exact g7.all _ (bF _) (λe=>hm.Lne (ik (by rw[←hm.Fv,e];rfl))) (hm.cbH k1 k2)
def oq.bB{a:List Int}(h:oq a):aU 8 ((2*ff a:Nat):Int):=by have h1:=Ti a h.aB (i:=a.length) (by have:=h.l9;omega);have h2:2^(a.length-1)≤2^8:=jP ak (by have:=h.l9;omega);unfold aU at*;rw[oV]at*;have h3:ff a≤nB a a.length*2^8:=lE _ h2;have e:(4294967296:Nat)^8=4294967296^7*4294967296:=iX ..;omega
def oq.mB{a:List Int}(h:oq a){p:Nat}(hp:p∈gD):aU 9 ((p:Int)^ls p (2*ff a))∧ls p (2*ff a)≤257:=by
 have hb:=h.bB;obtain⟨k1,k2,k3⟩:=Jk (p:=p) (by have:=(vI hp).1;omega) (2*ff a);generalize ls p (2*ff a)=k at*;generalize 2*ff a=b at*;obtain⟨q1,q2⟩:=vI hp;unfold aU at hb;rw[oV]at hb;by_cases e:k=1
 ·subst e;refine⟨?_,by omega⟩;unfold aU;rw[fO,wm,iY,oV];have:(4294967296:Nat)^1≤4294967296^9:=jP ak ak;omega
 ·obtain⟨j,rfl⟩:∃j,k=j+1:=⟨k-1,by omega⟩;have h3:=k3 j af af;have h4:p^j<4294967296^8:=af;constructor
  ·unfold aU;rw[←uK,oV,iX];have h5:p^j*p≤p^j*4294967296:=lE _ af;have e:(4294967296:Nat)^9=4294967296^8*4294967296:=iX ..;omega
  ·have h6:2^j≤p^j:=F6 af j;have h7:(2:Nat)^j<2^256:=by refine zb h6 ?_;have:(4294967296:Nat)^8=2^256:=ak;omega
   have:=(Nat.pow_lt_pow_iff_right (a:=2) ak).1 h7;omega
def oq.rn{a:List Int}(h:oq a){p:Nat}(hp:p∈gD)(hm:dF p a):yP a (hm.lf (ls p (2*ff a))) ((p:Int)^ls p (2*ff a)) 9:=by
 obtain⟨k1,k2,k3⟩:=Jk (p:=p) (by have:=(vI hp).1;omega) (2*ff a);obtain⟨m1,m2⟩:=h.mB hp;obtain⟨r1,r2⟩:=hm.r8;have z':(1:Int)<(p:Int)^ls p (2*ff a):=by obtain⟨s,hs⟩:∃s,ls p (2*ff a)=s+1:=⟨ls p (2*ff a)-1,by omega⟩;rw[hs];exact hm.NQ.pw s
 refine⟨h.am,by have:=h.l9;omega,by rw[hm.Fv];exact r1,λf hf=>?_,z',by decide,by decide,m1,λi=>(h.aB i).le ak,λf hf i=>?_⟩
 ·obtain⟨i,hi,f1,f2,_⟩:=hm.NR k1 hf;exact⟨f1,by rw[f2];have:=r2 _ (hm.at hi);omega⟩
 ·obtain⟨j,hj,_,_,_,f4⟩:=hm.NR k1 hf;rw[f4];exact abX af m1
def oq.liA{a:List Int}(h:oq a){p:Nat}(hp:p∈gD)(hm:dF p a):rX p a (λi=>hm.Ls.getD i []) hm.Ls.length (ls p (2*ff a)) 6:=by obtain⟨k1,k2,k3⟩:=Jk (p:=p) (by have:=(vI hp).1;omega) (2*ff a);exact⟨hm.liH,k1,by have:=(h.mB hp).2;omega,by have:=h.l9;omega,by decide,h.aB,hm.ft⟩
def apP(p:Nat)(L:List (List Int)):je (λi=>L.getD i []) L.length p=lP p L:=by
 unfold je lP;refine nP be λi h1 h2=>?_
 have hi:i<L.length:=gR;simp[aY,hi]
end Go.El
namespace Go.El
open Go Go.Proofs
abbrev UH:AV:= .c (.V (.func (.func 250) ⟨[]⟩ ⟨[]⟩))
def apQ(q:List Rat)(c:Rat):aG Tryz.prog 250 [cS .q q,aQ c] (.t []):=by refine aX Tryz.func250 ae ae ae ae ae ak ?_;exact rt ae (ahi ar ae (au.refl _))
def jV(a b:List Rat):List Rat:=if a.length<b.length then a else eh ((gE (b.getD (b.length-1) 0)⁻¹ a b (b.length-1) (a.length+1-b.length) (a.length+1-b.length)).2.take (b.length-1))
def dI(r:List Rat):List Rat:=if r=[]then[]else eh (oi (r.getD (r.length-1) 0)⁻¹ r)
def jf:Nat→List Rat→List Rat→List Rat
 |0,a,_=>a
 |k+1,a,b=>if b=[]then a else jf k b (dI (jV a b))
structure EuS(s:Nat)(a b:List Rat):Prop where
 la:a.length≤500
 lb:b.length≤500
 bn:b.getD (b.length-1) 0≠0
 qb:∀i,QS s (b.getD i 0)
 qS:∀j,j≤a.length+1-b.length→∀i,QS s ((gE (b.getD (b.length-1) 0)⁻¹ a b (b.length-1) (a.length+1-b.length) j).2.getD i 0)
 rn:jV a b≠[]→(jV a b).getD ((jV a b).length-1) 0≠0
 qr:∀i,QS s ((jV a b).getD i 0)
def CR(s:Nat):Nat→List Rat→List Rat→Prop
 |0,_,b=>b=[]
 |k+1,a,b=>b=[]∨(EuS s a b∧CR s k b (dI (jV a b)))
def apR{s:Nat}(h1:1≤s)(hs:s≤100000000){a b:List Rat}(hb:b≠[])(h:EuS s a b):∃q,aG Tryz.prog 251 [cS .q a,cS .q b] (.t [(false,[.S .q q]),(false,[.S .q (jV a b)]),(false,[.I .i64 0])]):=by
 have hl:=cX.2 hb;have la:=h.la;have lb:=h.lb;by_cases bh:a.length<b.length
 ·rw[jV,aw bh];exact⟨_,adb a b bh af⟩
 ·rw[jV,aq bh];exact⟨_,ada h1 hs a b (b.length-1) (a.length+1-b.length) af af af af h.bn h.qb h.qS⟩
def NT(l:List Rat):(eh l).length≤l.length:=VP
def NU{a b:List Rat}(hb:b≠[]):(jV a b).length<b.length:=by
 have hl:=cX.2 hb;unfold jV;split
 ·assumption
 ·exact zb (NT _) y7
set_option maxHeartbeats 4000000 in
def apS{s:Nat}(h1:1≤s)(hs:s≤100000000)(k:Nat)(a b:List Rat)(h:CR s k a b):aG Tryz.prog 249 [cS .q a,cS .q b,UH] (cS .q (jf k a b)):=by
 refine aX Tryz.func249 ae ae ae ae ae ak ?_;refine rr ae (aj (aK (bA (α:=Nat×List Rat×List Rat) (λx=>⟨[(0,cS .q x.2.1),(1,cS .q x.2.2),(2,UH)],[],2,[]⟩) (λx=>CR s x.1 x.2.1 x.2.2∧jf x.1 x.2.1 x.2.2=jf k a b) (λx=>x.1) (k,a,b) ⟨h,ae⟩ ck ?_)));rintro⟨k',f,g⟩ ⟨h2,h3⟩;simp only at h2 h3;refine aj (rr ae (ax ae (λh4=>?_) (λh4=>?_)))
 ·have hg:g≠[]:=λe=>by subst e;cases h4
  clear h4;cases k' with
  |zero=>exact absurd h2 hg
  |succ k'=>
   rw[CR]at h2
   rcases h2 with h2|⟨h2,h5⟩
   ·exact absurd h2 hg
   rw[jf,aq hg]at h3
   obtain⟨q,qv⟩:=apR h1 hs hg h2
   have kA:=NU (a:=f) hg
   have lb:=h2.lb
   have uY:=h2.rn
   have Jl:=h2.qr
   generalize jV f g=r at*
   obtain⟨c,hc⟩:∃c:Rat,c=if r=[]then 1 else(r.getD (r.length-1) 0)⁻¹ :=⟨_,ae⟩
   refine aC (ai (aK (rb (rc ae ae qv (re ae (rb (rc ae ae (ME 1 ak ak) (re ae (wO ⟨[(1,cS .q g),(2,UH),(7,cS .q q),(8,cS .q (dI r)),(10,.c (.P 4001000 0))],[(4001000,.box 46 0 (av .q c))],20,[]⟩ ?_ (λic=>rr ae ?_))))))))))
   ·exact rb (Ce ae ae (.inl ⟨ae,ae,ae⟩) ae (apQ q c) (re ae (rt ae (a7 (a8 (k',g,dI r) ⟨h5,h3⟩ (fN k') ck)))))
   ·refine ax ae (λh6=>?_) (λh6=>aC ?_)
    ·have hr:r≠[]:=λe=>by subst e;cases h6
     rw[aq hr]at hc;have hi:=ac6 af r hr af (uY hr) (Jl _);have CJ:=(Jl (r.length-1)).inv (uY hr);rw[←hc]at hi CJ;have NV:=Uh h1 af c r af CJ Jl;rw[show eh (oi c r)=dI r by rw[dI,aq hr,hc]]at NV;exact rb (rc ae ae hi (re ae (cG (rc ae ae NV (re ae (my ic (wk ⟨sR ae,sR ae,sR ae,sR ae,sR ae,ah⟩ ⟨bE ae ae,ah⟩)))))))
    ·have hr:r=[]:=by have h6:¬(r.length:Int)>0:=bC h6;exact ik af
     rw[aw hr]at hc;subst hr hc;exact my ic (wk ⟨sR ae,sR ae,sR ae,sR ae,sR ae,ah⟩ ⟨bE ae ae,ah⟩)
 ·have h4:g=[]:=by have h4:¬(g.length:Int)>0:=bC h4;exact ik af
  subst h4;have h3:f=jf k a b:=by
   cases k' with
   |zero=>exact h3
   |succ k'=>rwa[jf,aw ae]at h3
  rw[←h3];exact bp (bu (br (bq (ai (rr ae (aF (aL ar ae (au.refl _))))))))
def apT{s:Nat}(h1:1≤s)(hs:s≤100000000)(k:Nat)(a b:List Rat)(h:CR s k a b)(hg:jf k a b≠[])(hl:(jf k a b).length≤1000)(hn:(jf k a b).getD ((jf k a b).length-1) 0≠0)(hq:∀i,QS s ((jf k a b).getD i 0)):aG Tryz.prog 197 [cS .q a,cS .q b] (cS .q (dI (jf k a b))):=by refine aX Tryz.func197 ae ae ae ae ae ak ?_;have he:=apS h1 hs k a b h;have hm:=ac7 h1 af _ hg hl hn hq ((hq _).inv hn);rw[show eh (oi ((jf k a b).getD ((jf k a b).length-1) 0)⁻¹ (jf k a b))=dI (jf k a b)by rw[dI,aq hg]]at hm;exact rr ae (rb (rc ae ae he (rc ae ae hm (re ae (aF (aL ar ae (au.refl _)))))))
abbrev UT:ET:= .pr (.sl .q) dU
def CS(la:Nat):Nat→Nat→List Rat→List Rat→List (List Rat×Int)→List (List Rat×Int)→Prop
 |0,_,_,_,_,_=>False
 |k+1,n,w,y,acc,out=>if 1<w.length∧n<la then∃dw z p w' y',
   aG Tryz.prog 196 [cS .q w] (cS .q dw)∧aG Tryz.prog 202 [cS .q y,cS .q dw] (cS .q z)∧aG Tryz.prog 197 [cS .q w,cS .q z] (cS .q p)∧aG Tryz.prog 198 [cS .q w,cS .q p] (cS .q w')∧aG Tryz.prog 198 [cS .q z,cS .q p] (cS .q y')∧
   CS la k (n+1) w' y' (if 1<p.length then acc++[(p,(n:Int))]else acc) out
  else out=acc
set_option maxRecDepth 100000 in
set_option maxHeartbeats 4000000 in
def apU(a d g ma w sd y:List Rat)(c:Rat)(la:a.length≤500)(hd:aG Tryz.prog 196 [cS .q a] (cS .q d))(hg:aG Tryz.prog 197 [cS .q a,cS .q d] (cS .q g))(mm:aG Tryz.prog 199 [cS .q a] (cS .q ma))(hw:aG Tryz.prog 198 [cS .q ma,cS .q g] (cS .q w))(hc:aG Tryz.prog 201 [cS .q a] (aQ c))(hsd:aG Tryz.prog 200 [aQ c,cS .q d] (cS .q sd))(hy:aG Tryz.prog 198 [cS .q sd,cS .q g] (cS .q y))
  (k:Nat) (out:List (List Rat×Int)) (hR:CS a.length k 1 w y [] out):mY Tryz.prog 134 [cS .q a] 80 UT out:=by
 refine zS Tryz.func134 ae ae ae ae ak ?_
 refine rr ae (rr ae (rb (rc ae ae hd (re ae (rb (rc ae ae hg (re ae ?_)))))))
 refine rb (rc ae ae mm (rc ae ae hw (rc ae ae hc (rc ae ae hsd (rc ae ae hy (re ae ?_))))))
 refine aj (rr ae ?_)
 refine aK (bA (α:=Nat×Nat×List Rat×List Rat×List (List Rat×Int)) (λx=>⟨[(0,cS .q a),(3,.c (.X 6000000)),(6,cS .q x.2.2.1),(7,cS .q x.2.2.2.1),(8,cI x.2.1)],[(6000000,.vec 80 UT x.2.2.2.2)],7,[]⟩) (λx=>CS a.length x.1 x.2.1 x.2.2.1 x.2.2.2.1 x.2.2.2.2 out∧x.2.2.2.2.length<x.2.1∧x.2.1≤a.length+1) (λx=>x.1) (k,1,w,y,[]) ⟨hR,Nat.zero_lt_one,Nat.le_add_left _ _⟩ ?_ ?_)
 ·exact s9 6000000 80 UT ⟨.inl (sR ae),.inr ⟨ae,ae⟩,.inl (sR ae),.inl (sR ae),.inl (sR ae),ah⟩ ah ae (eO.of ae)
 rintro⟨k,n,w,y,acc⟩ ⟨h1,h2,h3⟩
 simp only at h1 h2 h3
 cases k with
 |zero=>exact absurd h1 (λh=>h)
 |succ k=>
  rw[CS]at h1
  have aek:¬(1<w.length∧n<a.length)→out=acc:=λe=>by rwa[aq e]at h1
  refine aj (rb (rg 29 ae ae (λe1=>re ae (ax ae (λe2=>?_) (λe2=>?_))) (λe1=>re ae (ax ae (λe2=>by cases e2) (λ_=>?_)))))
  ·have e1:1<w.length:=by have e1:(w.length:Int)>1:=bc e1;omega
   have e2:n<a.length:=by have e2:(n:Int)<(a.length:Int):=bc e2;omega
   rw[aw ⟨e1,e2⟩]at h1;obtain⟨dw,z,p,w',y',c1,c2,c3,c4,c5,h1⟩:=h1;refine aC (ai (aj (aK (rb (rc ae ae c1 (rc ae ae c2 (re ae (rb (rc ae ae c3 (re ae (wO ⟨[(0,cS .q a),(3,.c (.X 6000000)),(6,cS .q w),(8,cI n),(9,cS .q z),(10,cS .q p)],[(6000000,.vec 80 UT (if 1<p.length then acc++[(p,(n:Int))]else acc))],30,[]⟩ ?_ (λic=>rr ae (ax ae (λe3=>?_) (λe3=>aC ?_))))))))))))))
   ·refine cG (rc ae ae c4 (rc ae ae c5 (re ae (a7 (ai (rt ae (hp:=aR) (a8 (k,n+1,w',y',if 1<p.length then acc++[(p,(n:Int))]else acc) ⟨h1,?_,by show n+1≤_;omega⟩ (fN k) ck)))))));show(if 1<p.length then acc++[(p,(n:Int))]else acc).length<n+1;split
    ·rw[ko];show acc.length+1<_;omega
    ·omega
   ·have e3:1<p.length:=by have e3:(p.length:Int)>1:=bc e3;omega
    rw[aw e3]at ic;refine cG (rl UT [(p,(n:Int))] ae ae (ra ae ae ae ae ae ae ae ae ae ?_ ?_ (re ae ?_)))
    ·show(acc.length+1+(acc.length+1)/4+192)*32≤_;omega
    ·show(acc.length+1)*2≤_;omega
    ·exact my ic (Wk.trans (wk (st':=⟨[(0,cS .q a),(3,.c (.X 11005000)),(6,cS .q w),(8,cI n),(9,cS .q z),(10,cS .q p)],[(11005000,.vec 80 UT (acc++[(p,(n:Int))]))],12,[]⟩) ⟨sR ae,sR ae,sR ae,sR ae,sR ae,sR ae,ah⟩ ⟨bR ae,ah⟩) (Wk.trans (qq 6000000 11005000 ae ae ae) ck))
   ·have e3:¬1<p.length:=by have e3:¬(p.length:Int)>1:=bC e3;omega
    rw[aq e3]at ic;exact my ic ck
  ·have e2:¬n<a.length:=by have e2:¬(n:Int)<(a.length:Int):=bC e2;omega
   rw[aek (λh=>e2 h.2)];exact bp (bu (br (bq (ai (rr ae (aF (ya (id:=6000000) ar ae ae)))))))
  ·have e1:¬1<w.length:=by have e1:¬(w.length:Int)>1:=bC e1;omega
   rw[aek (λh=>e1 h.1)];exact bp (bu (br (bq (ai (rr ae (aF (ya (id:=6000000) ar ae ae)))))))
end Go.El
namespace Go.El
namespace Rx
def UI(l:List Rat):∀n,iP l n≤n∧(∀i,iP l n≤i→i<n→l.getD i 0=0)∧(iP l n=0∨l.getD (iP l n-1) 0≠0)
 |0=>⟨bF _,λi _ h=>absurd h af,.inl ae⟩
 |n+1=>by
  rw[iP];split
  ·rename_i h;obtain⟨h1,h2,h3⟩:=UI l n;refine⟨by omega,λi hi hn=>?_,h3⟩;by_cases e:i=n
   ·subst e;exact Rat.num_eq_zero.1 h
   ·exact h2 i hi af
  ·rename_i h;exact⟨bF _,λi h1 h2=>absurd h2 af,.inr λe=>h (by rw[jx]at e;rw[e];rfl)⟩
def UJ(a:List Rat)(n i:Nat):(a.take n).getD i 0=if i<n then a.getD i 0 else 0:=by
 rw[aY,ON];split
 ·rw[aY]
 ·rfl
def ael{l:List Rat}{n:Nat}(h:∀i,n≤i→l.getD i 0=0):lx (l.take n)=lx l:=ext λi=>by
 rw[l5,l5,UJ];split
 ·rfl
 ·exact(h i af).symm
def vT(l:List Rat):lx (eh l)=lx l:=ael λi hi=>by
 by_cases e:i<l.length
 ·exact(UI l l.length).2.1 i hi e
 ·exact nK l af
def yQ(l:List Rat):dp (eh l):=by
 obtain⟨h1,h2,h3⟩:=UI l l.length;have hl:(eh l).length=iP l l.length:=VP;rcases h3 with h3|h3
 ·exact .inl (ik af)
 ·by_cases e:iP l l.length=0
  ·exact .inl (ik af)
  ·right;rw[hl];unfold eh;rw[UJ,aw af];exact h3
def dp.ne{a:List Rat}(h:dp a)(h0:a≠[]):a.getD (a.length-1) 0≠0:=h.resolve_left h0
def Fw{a:List Rat}(h:dp a)(h0:a≠[]):lx a≠0:=λe=>h0 (MJ h IB (e.trans xi.symm))
def aem(c:Rat)(a:List Rat):lx (oi c a)=K c*lx a:=ext λi=>by rw[iA];exact ac5 c a i
def aen(a:List Rat):lx (nc a)=bG (lx a):=ext λi=>by
 rw[rW,l5,l5];by_cases h:i<a.length-1
 ·rw[ac9 h];rfl
 ·rw[nK (nc a) (by rw[ac8];omega),nK a af,jG]
def NW{r b:List Rat}(c:Rat){k:Nat}(h:k+b.length≤r.length):lx (oh r c b k)=lx r+K c*(X k*lx b):=ext λi=>by
 rw[fJ,iA,pt,l5,l5];by_cases hi:i<r.length
 ·rw[show(oh r c b k).getD i 0=_ from yN hi];by_cases e:k≤i∧i<k+b.length
  ·rw[aw e,aw e.1];rfl
  ·rw[aq e];split
   ·rw[l5,nK b af,jG,sk]
   ·rw[jG,sk]
 ·rw[nK (oh r c b k) (by rw[oh,oQ];omega),nK r af];split
  ·rw[l5,nK b af,jG,sk]
  ·rw[jG,sk]
def apW(a:List Rat)(c:Rat)(b:List Rat):lx (uB a c b)=lx a+K c*lx b:=by unfold uB;rw[NW c (by rw[Nx af];omega),al2,one_mul];congr 1;exact ext λi=>ac' a _ i
def apX{l:List Rat}{k:Nat}(t:Rat)(h:k<l.length)(h0:l.getD k 0=0):lx (l.set k t)=lx l+K t*X k:=ext λi=>by
 rw[fJ,iA,Cq,l5,l5,I2 i t h];by_cases e:k=i
 ·subst e;rw[aw ae,aw ae,h0];grind
 ·rw[aq e,aq (λh=>e h.symm)];grind
def UK{a b:List Rat}{n m:Nat}(hn:b.length=n+1)(hm:a.length=n+m)(hb:b.getD n 0≠0):∀j,j≤m→
  lx a=lx (gE (b.getD n 0)⁻¹ a b n m j).1*lx b+lx (gE (b.getD n 0)⁻¹ a b n m j).2∧(∀i,i<m-j→(gE (b.getD n 0)⁻¹ a b n m j).1.getD i 0=0)∧(∀i,n+(m-j)≤i→(gE (b.getD n 0)⁻¹ a b n m j).2.getD i 0=0)
 |0,_=>by have hz:∀i,(List.replicate m (0:Rat)).getD i 0=0:=Nw m;refine⟨?_,λi _=>hz i,λi hi=>nK a af⟩;show lx a=lx (List.replicate m 0)*lx b+lx a;rw[show lx (List.replicate m (0:Rat))=0 from ext hz,zero_mul,zero_add]
 |j+1,hj=>by
  obtain⟨h1,h2,h3⟩:=UK hn hm hb j af;obtain⟨l1,l2⟩:=I4 (b.getD n 0)⁻¹ a b n m j;rw[gE];generalize gE (b.getD n 0)⁻¹ a b n m j=x at*;obtain⟨q,r⟩:=x;simp only at h1 h2 h3 l1 l2⊢;refine⟨?_,λi hi=>?_,λi hi=>?_⟩
  ·rw[apX _ af (h2 _ af),NW _ af,h1,add_mul,Al,neg_mul,mul_assoc (K _) (X _)];generalize K (r.getD (m-1-j+n) 0*(b.getD n 0)⁻¹)*(X (m-1-j)*lx b)=u;rw[add_assoc,←add_assoc u,add_comm u,add_assoc (lx r),add_neg,add_zero]
  ·rw[I2 i _ af,aq af,h2 i af]
  ·have:=az (λA:Rx=>A i) (NW (r:=r) (b:=b) (-(r.getD (m-1-j+n) 0*(b.getD n 0)⁻¹)) (k:=m-1-j) af);simp only[fJ,iA,pt,l5]at this;rw[this,aw af];by_cases e:i=m-1-j+n
   ·subst e;rw[show m-1-j+n-(m-1-j)=n by omega];have h4:=ou _ hb;grind
   ·rw[h3 i af,nK b (i:=i-(m-1-j)) af];grind
def g8(a b:List Rat):List Rat:=if a.length<b.length then[]else eh (gE (b.getD (b.length-1) 0)⁻¹ a b (b.length-1) (a.length+1-b.length) (a.length+1-b.length)).1
def Fy(a b:List Rat):dp (g8 a b):=by
 unfold g8;split
 ·exact IB
 ·exact yQ _
def aeo(a b:List Rat):(g8 a b).length≤a.length+1-b.length:=by
 unfold g8;split
 ·exact bK _
 ·refine dG (NT _) ?_;rw[(I4 ..).1];exact bF _
def aep{a b:List Rat}(hb:dp b)(et:b≠[]):lx a=lx (g8 a b)*lx b+lx (jV a b):=by
 have hl:=cX.2 et;unfold g8 jV;by_cases h:a.length<b.length
 ·rw[aw h,aw h,xi,zero_mul,zero_add]
 ·rw[aq h,aq h,vT,vT];obtain⟨h1,_,h3⟩:=UK (a:=a) (b:=b) (n:=b.length-1) (m:=a.length+1-b.length) af af (hb.ne et) _ (bF _);rw[ael (λi hi=>h3 i af)];exact h1
def UL{a b:List Rat}(ha:dp a):dp (jV a b):=by
 unfold jV;split
 ·exact ha
 ·exact yQ _
def As{a b:List Rat}(ha:dp a)(hb:dp b)(et:b≠[])(h:lx b∣lx a):lx a=lx (g8 a b)*lx b:=by
 have h1:=aep (a:=a) hb et;have h2:lx (jV a b)=0:=by
  refine vq (A:=lx b) ?_ ?_
  ·rw[h1]at h;exact wV h (dvd_mul_left _ _)
  ·rw[dV (UL ha),dV hb];exact NU et
 rw[h2,add_zero]at h1;exact h1
def vU(r:List Rat):dp (dI r):=by
 unfold dI;split
 ·exact IB
 ·exact yQ _
def Fz{r:List Rat}(h0:r≠[]):lx (dI r)=K (r.getD (r.length-1) 0)⁻¹ *lx r:=by rw[dI,aq h0,vT,aem]
def NX:dI []=[]:=aw ae
def tn{c:Rat}(h:c≠0):c⁻¹ ≠0:=λe=>by have:=ou _ h;rw[e,wo]at this;exact absurd this ak
def NY{r:List Rat}(h:dp r)(h0:r≠[]):Mo (lx (dI r)):=by have hl:=cX.2 h0;have h1:=eK (ug (tn (h.ne h0))) (Fw h h0);rw[uh (tn (h.ne h0)),dV h]at h1;rw[Fz h0,Mo,iA,show sz (K (r.getD (r.length-1) 0)⁻¹ *lx r)-1=r.length-1 by omega,l5,ou _ (h.ne h0)]
def NZ{r:List Rat}(h:dp r):(dI r).length=r.length:=by
 by_cases h0:r=[]
 ·subst h0;rw[NX]
 ·have h1:=eK (ug (tn (h.ne h0))) (Fw h h0);rw[uh (tn (h.ne h0)),dV h,←Fz h0,dV (vU r)]at h1;omega
def Jm(r:List Rat):lx r∣lx (dI r)∧(dp r→lx (dI r)∣lx r):=by
 by_cases h0:r=[]
 ·subst h0;rw[NX];exact⟨dvd_refl _,λ_=>dvd_refl _⟩
 ·rw[Fz h0];refine⟨dvd_mul_left _ _,λh=>⟨K (r.getD (r.length-1) 0),?_⟩⟩;rw[←mul_assoc,mul_comm (K _) (K _),pC (h.ne h0),one_mul]
def UM:∀(k:Nat)(a b:List Rat),dp a→dp b→b.length<k→dp (jf k a b)∧lx (jf k a b)∣lx a∧lx (jf k a b)∣lx b∧∃U V,lx (jf k a b)=U*lx a+V*lx b
 |0,_,_,_,_,h=>by omega
 |k+1,a,b,ha,hb,h=>by
  rw[jf];split
  ·rename_i e;subst e;exact⟨ha,dvd_refl _,by rw[xi];exact dvd_zero _,1,0,by rw[one_mul,zero_mul,add_zero]⟩
  ·rename_i e;have hl:=NU (a:=a) e;have hr:=UL (b:=b) ha;have e1:=aep (a:=a) hb e;obtain⟨i1,i2,i3,U,V,i4⟩:=UM k b (dI (jV a b)) hb (vU _) (by rw[NZ hr];omega);obtain⟨d1,d2⟩:=Jm (jV a b);obtain⟨w,hw⟩:=d1;have i5:=dvd_trans i3 (d2 hr);refine⟨i1,by rw[e1];exact dvd_add (fg i2 _) i5,i2,V*w,U-V*w*lx (g8 a b),?_⟩;rw[i4,hw,e1,mul_add,sub_mul];have:V*w*(lx (g8 a b)*lx b)+V*w*lx (jV a b)+(U*lx b-V*w*lx (g8 a b)*lx b)=(U*lx b-V*w*lx (g8 a b)*lx b+V*w*lx (g8 a b)*lx b)+V*(w*lx (jV a b)):=kI;rw[this,lT]
def apY{k:Nat}{a b:List Rat}(ha:dp a)(hb:dp b)(hk:b.length<k)(h0:a≠[]):jf k a b≠[]∧dp (dI (jf k a b))∧ID (lx (dI (jf k a b))) (lx a) (lx b):=by
 obtain⟨h1,h2,h3,U,V,h4⟩:=UM k a b ha hb hk;have aN:jf k a b≠[]:=λe=>by rw[e,xi]at h2;obtain⟨w,hw⟩:=h2;rw[mul_zero]at hw;exact Fw ha h0 hw
 obtain⟨d1,d2⟩:=Jm (jf k a b);obtain⟨w,hw⟩:=d1;refine⟨aN,vU _,NY h1 aN,dvd_trans (d2 h1) h2,dvd_trans (d2 h1) h3,w*U,w*V,?_⟩;rw[hw,h4,mul_add,mul_assoc,mul_assoc]
end Rx
namespace Rx
def yR(M:Nat)(D:Int)(A:Rx):Prop:=∀i,∃z:Int,z.natAbs≤M∧(D:Rat)*A i=(z:Rat)
def Ht(M:Nat)(A:Rx):Prop:=∃D:Int,D≠0∧D.natAbs≤M∧yR M D A
def UN{D:Int}(h:D≠0):(D:Rat)≠0:=λe=>h (VV.1 e)
def yR.le{M N:Nat}{D:Int}{A:Rx}(h:yR M D A)(k:M≤N):yR N D A:=λi=>by obtain⟨z,h1,h2⟩:=h i;exact⟨z,dG h1 k,h2⟩
def Ht.le{M N:Nat}{A:Rx}(h:Ht M A)(k:M≤N):Ht N A:=by obtain⟨D,h1,h2,h3⟩:=h;exact⟨D,h1,dG h2 k,h3.le k⟩
def Ht.zero{M:Nat}(h:1≤M):Ht M 0:=⟨1,by decide,h,λ_=>⟨0,bK _,jG _⟩⟩
def Ht.qs{M s:Nat}{A:Rx}(h:Ht M A)(hs:M<4294967296^s)(i:Nat):QS s (A i):=by
 obtain⟨D,h1,h2,h3⟩:=h;obtain⟨z,h4,h5⟩:=h3 i;have key:∀(D z:Int),0<D→D.natAbs≤M→z.natAbs≤M→(D:Rat)*A i=(z:Rat)→QS s (A i):=by
  intro D z h0 h2 h4 h5;have e:Rat.divInt z D=A i:=by have h6:=ou _ (UN (show D≠0 by omega));rw[OR,Rat.div_def,←h5];grind
  rw[←e];exact Iz h0 (show z.natAbs<4294967296^s by omega) (show D.natAbs<4294967296^s by omega)
 rcases Int.lt_trichotomy D 0 with e|e|e
 ·exact key (-D) (-z) af af af (by rw[J2,J2,←h5];grind)
 ·exact absurd e h1
 ·exact key D z e h2 h4 h5
def yS{a b:Int}{M N:Nat}(h:a.natAbs≤M)(k:b.natAbs≤N):(a*b).natAbs≤M*N:=by rw[sj];exact nk h k
def Ht.sub{M N:Nat}{A B:Rx}(h:Ht M A)(k:Ht N B):Ht (2*(M*N)) (A-B):=by
 obtain⟨D,h1,h2,h3⟩:=h;obtain⟨E,k1,k2,k3⟩:=k;refine⟨D*E,J0 h1 k1,by have:=yS h2 k2;omega,λi=>?_⟩;obtain⟨z,h4,h5⟩:=h3 i;obtain⟨w,k4,k5⟩:=k3 i;refine⟨z*E-D*w,?_,?_⟩
 ·have e1:=yS h4 k2;have e2:=yS h2 k4;omega
 ·rw[yn,iW,J1,iW,iW,←h5,←k5];grind
def Ht.bG{M n:Nat}{A:Rx}(h:Ht M A)(hn:sz A≤n)(h1n:1≤n):Ht (n*M) (bG A):=by
 obtain⟨D,h1,h2,h3⟩:=h;refine⟨D,h1,by have:=nk h1n h2;omega,λi=>?_⟩;by_cases hi:n≤i+1
 ·exact⟨0,bK _,by rw[rW,oa af,jG,jG];rfl⟩
 ·obtain⟨z,h4,h5⟩:=h3 (i+1);refine⟨((i+1:Nat):Int)*z,yS af h4,?_⟩;rw[rW,iW,←h5,tu];grind
def Ht.ap0{M k:Nat}{A:Rx}(h:Ht M A)(hk:A k≠0):Ht M (K (A k)⁻¹ *A):=by
 obtain⟨D,h1,h2,h3⟩:=h;obtain⟨w,h4,h5⟩:=h3 k;have hw:w≠0:=λe=>by
  subst e;rcases Dg.1 (h5.trans JZ)with e|e
  ·exact UN h1 e
  ·exact hk e
 refine⟨w,hw,h4,λi=>?_⟩;obtain⟨z,h6,h7⟩:=h3 i;refine⟨z,h6,?_⟩;have h8:=ou _ hk;rw[iA,←h5,←h7];grind
def aeq{a b:List Rat}{n m M N:Nat}(hn:b.length=n+1)(hm:a.length=n+m)(hb:b.getD n 0≠0)(ha:Ht M (lx a))(hN:Ht N (lx b)):∀j,j≤m→
  ∃D:Int,D≠0∧D.natAbs≤M*(2*N)^j∧yR (M*(2*N)^j) D (lx (gE (b.getD n 0)⁻¹ a b n m j).1)∧yR (M*(2*N)^j) D (lx (gE (b.getD n 0)⁻¹ a b n m j).2)
 |0,_=>by obtain⟨D,h1,h2,h3⟩:=ha;rw[xI,kT];refine⟨D,h1,h2,λi=>⟨0,bK _,?_⟩,h3⟩;show(D:Rat)*(List.replicate m (0:Rat)).getD i 0=_;rw[Nw,jG];rfl
 |j+1,hj=>by
  obtain⟨D,d1,d2,d3,d4⟩:=aeq hn hm hb ha hN j af;obtain⟨E,k1,k2,k3⟩:=hN;obtain⟨β,b1,b2⟩:=k3 n;obtain⟨_,q0,_⟩:=UK hn hm hb j af;obtain⟨l1,l2⟩:=I4 (b.getD n 0)⁻¹ a b n m j;have hβ:β≠0:=λe=>by
   subst e;rcases Dg.1 (b2.trans JZ)with e|e
   ·exact UN k1 e
   ·exact hb e
  have uo:(β:Rat)*(b.getD n 0)⁻¹ =(E:Rat):=by have h8:=ou _ hb;have b2:(E:Rat)*b.getD n 0=(β:Rat):=b2;rw[←b2];grind
  rw[gE,iX,←xG];generalize gE (b.getD n 0)⁻¹ a b n m j=x at*;generalize M*(2*N)^j=X at*;obtain⟨q,r⟩:=x;simp only at d3 d4 q0 l1 l2⊢;obtain⟨t,t1,t2⟩:=d4 (m-1-j+n);have t2:(D:Rat)*r.getD (m-1-j+n) 0=(t:Rat):=t2;have UO:X*N≤X*(2*N):=lE X af;have le2:X*(2*N)=X*N+X*N:=by rw[Nat.two_mul,Dk]
  refine⟨D*β,J0 d1 hβ,dG (yS d2 b1) UO,λi=>?_,λi=>?_⟩
  ·rw[l5,I2 i _ af];by_cases e:m-1-j=i
   ·rw[aw e];refine⟨t*E,dG (yS t1 k2) UO,?_⟩;rw[iW,iW,←t2,←uo];grind
   ·rw[aq e];obtain⟨z,z1,z2⟩:=d3 i;have z2:(D:Rat)*q.getD i 0=(z:Rat):=z2;refine⟨z*β,dG (yS z1 b1) UO,?_⟩;rw[iW,iW,←z2];grind
  ·rw[NW _ af,fJ,iA,pt];obtain⟨z,z1,z2⟩:=d4 i;have e1:=yS z1 b1;by_cases e:m-1-j≤i
   ·rw[aw e];obtain⟨w,w1,w2⟩:=k3 (i-(m-1-j));have e2:=yS t1 w1;refine⟨z*β-t*w,by omega,?_⟩;rw[J1,iW,iW,iW,←z2,←w2,←t2,←uo];grind
   ·rw[aq e];refine⟨z*β,by omega,?_⟩;rw[iW,iW,←z2];grind
def yR.take{M:Nat}{D:Int}{a:List Rat}(h:yR M D (lx a))(n:Nat):yR M D (lx (a.take n)):=λi=>by
 rw[l5,UJ];split
 ·exact h i
 ·exact⟨0,bK _,jG _⟩
def N0{a b:List Rat}{t u:Nat}(hb:dp b)(et:b≠[])(ha:Ht (2^t) (lx a))(hN:Ht (2^u) (lx b)):Ht (2^(t+(u+1)*(a.length+1-b.length))) (lx (g8 a b))∧Ht (2^(t+(u+1)*(a.length+1-b.length))) (lx (jV a b))∧
  (b.length≤a.length→∀j,j≤a.length+1-b.length→Ht (2^(t+(u+1)*(a.length+1-b.length))) (lx (gE (b.getD (b.length-1) 0)⁻¹ a b (b.length-1) (a.length+1-b.length) j).2)):=by
 have hl:=cX.2 et
 unfold g8 jV
 by_cases h:a.length<b.length
 ·rw[aw h,aw h];refine⟨Ht.zero (mh ak),ha.le (jP ak (Nat.le_add_right _ _)),λh'=>absurd h af⟩
 ·rw[aq h,aq h,vT,vT];have key:=aeq (a:=a) (b:=b) (n:=b.length-1) (m:=a.length+1-b.length) af af (hb.ne et) ha hN;have ep:∀j,2^t*(2*2^u)^j=2^(t+(u+1)*j):=λj=>by rw[show 2*2^u=2^(u+1)by rw[iX,g9],←zk,←oY]
  obtain⟨D,d1,d2,d3,d4⟩:=key _ (bF _);rw[ep]at d2 d3 d4;refine⟨⟨D,d1,d2,d3⟩,⟨D,d1,d2,d4.take _⟩,λ_ j hj=>?_⟩;obtain⟨D,d1,d2,d3,d4⟩:=key j hj;rw[ep]at d2 d3 d4;exact Ht.le ⟨D,d1,d2,d4⟩ (jP ak (Nat.add_le_add_left (lE _ hj) _))
def ap1{r:List Rat}{M:Nat}(h:dp r)(k:Ht M (lx r)):Ht M (lx (dI r)):=by
 by_cases h0:r=[]
 ·subst h0;rw[NX];exact k
 ·rw[Fz h0];exact k.ap0 (k:=r.length-1) (h.ne h0)
def N1(n:Nat){k:Nat}(h:k≤n):2^k≤2^n:=jP ak h
def tq{t s:Nat}(h:t<32*s):2^t<4294967296^s:=by rw[show(4294967296:Nat)=2^32 by decide,←zk];exact Nat.pow_lt_pow_right ak h
def three{d:Nat}:1≤d→d+2≤3^d:=by
 intro h;induction d with
 |zero=>omega
 |succ d ih=>
  by_cases e:d=0
  ·subst e;decide
  ·have:=ih af;rw[iX];omega
def aer{a b:List Rat}(hb:b≠[]):(dI (jV a b)).length<b.length∨dI (jV a b)=[]:=by
 by_cases h:jV a b=[]
 ·right;rw[h,NX]
 ·left;have:=NU (a:=a) hb;unfold dI;rw[aq h];refine zb (NT _) ?_;rw[oi,dJ];exact this
def aes{s:Nat}:∀(k t:Nat)(a b:List Rat),dp a→dp b→b.length<k→(b=[]∨b.length<a.length)→a.length≤500→Ht (2^t) (lx a)→Ht (2^t) (lx b)→(t+1)*3^a.length≤32*s→
  CR s k a b∧(∀i,QS s ((jf k a b).getD i 0))∧(jf k a b).length≤500
 |0,_,_,_,_,_,h,_,_,_,_,_=>by omega
 |k+1,t,a,b,ha,hb,hk,bh,la,hA,hB,hs=>by
  have p3:0<3^a.length:=mh ak;have ht:t<32*s:=by have:=lE (t+1) (show 1≤3^a.length from p3);omega
  rw[CR,jf];split
  ·rename_i e;exact⟨.inl e,λi=>hA.qs (tq ht) i,la⟩
  ·rename_i e;have bh:=bh.resolve_left e;have hl:=cX.2 e;obtain⟨q1,q2,q3⟩:=N0 hb e hA hB;have e3:t+(t+1)*(a.length+1-b.length)+1=(t+1)*(a.length-b.length+2):=by rw[show a.length+1-b.length=a.length-b.length+1 by omega,show a.length-b.length+2=a.length-b.length+1+1 by omega,Dk (t+1) (a.length-b.length+1) 1];omega
   have e4:(t+1)*(a.length-b.length+2)*3^b.length≤(t+1)*3^a.length:=by have:=three (d:=a.length-b.length) af;rw[xG];refine lE _ ?_;refine dG (dY _ this) ?_;rw[←oY,show a.length-b.length+b.length=a.length by omega];exact bF _
   have hr:=UL (b:=b) ha;have p4:0<3^b.length:=mh ak;have vA:t+(t+1)*(a.length+1-b.length)<32*s:=by have:=lE ((t+1)*(a.length-b.length+2)) (show 1≤3^b.length from p4);omega
   obtain⟨i1,i2,i3⟩:=aes (s:=s) k (t+(t+1)*(a.length+1-b.length)) b (dI (jV a b)) hb (vU _) (by rcases aer (a:=a) e with h|h;omega;rw[h,mc];omega) ((aer (a:=a) e).symm) af
    (hB.le (jP ak (Nat.le_add_right _ _))) (ap1 hr q2) (by rw[e3];omega)
   refine⟨.inr ⟨⟨la,by omega,hb.ne e,λi=>hB.qs (tq ht) i,λj hj i=>(q3 af j hj).qs (tq vA) i,λh=>hr.ne h,λi=>q2.qs (tq vA) i⟩,i1⟩,i2,i3⟩
end Rx
end Go.El
namespace Go.El
open Go Go.Proofs
open Rx
def N2{s t u:Nat}(hs:s≤100000000){a b:List Rat}(hb:dp b)(et:b≠[])(la:a.length≤500)(lb:b.length≤500)(hA:Ht (2^t) (lx a))(hB:Ht (2^u) (lx b))(h:t+(u+1)*(a.length+1-b.length)<32*s)(hu:u<32*s):aG Tryz.prog 198 [cS .q a,cS .q b] (cS .q (g8 a b)):=by
 have hl:=cX.2 et;by_cases bh:a.length<b.length
 ·rw[g8,aw bh];exact aoc a b bh af
 ·obtain⟨_,_,q3⟩:=N0 hb et hA hB;rw[g8,aq bh];exact aod (s:=s) af hs a b (b.length-1) (a.length+1-b.length) af af af af (hb.ne et) (λi=>hB.qs (tq hu) i) (λj hj i=>(q3 af j hj).qs (tq h) i)
def aet{s t:Nat}(hs:s≤100000000){a b:List Rat}(ha:dp a)(hb:dp b)(h0:a≠[])(bh:b=[]∨b.length<a.length)(la:a.length≤500)(hA:Ht (2^t) (lx a))(hB:Ht (2^t) (lx b))(h:(t+1)*3^a.length≤32*s):∃g,aG Tryz.prog 197 [cS .q a,cS .q b] (cS .q g)∧dp g∧ID (lx g) (lx a) (lx b):=by
 obtain⟨e1,e2,e3⟩:=aes (s:=s) (b.length+1) t a b ha hb af bh la hA hB h;obtain⟨g1,g2,g3⟩:=apY (k:=b.length+1) ha hb af h0;have hq:dp (jf (b.length+1) a b):=(UM (b.length+1) a b ha hb af).1;have p3:0<3^a.length:=mh ak;have Fu:1≤s:=by have:=nk (show 1≤t+1 by omega) (show 1≤3^a.length from p3);omega
 exact⟨_,apT Fu hs (b.length+1) a b e1 g1 af (hq.ne g1) e2,g2,g3⟩
def aeu{s t:Nat}(hs:s≤100000000){a:List Rat}(la:a.length≤500)(hA:Ht (2^t) (lx a))(h:t<32*s):aG Tryz.prog 196 [cS .q a] (cS .q (eh (nc a))):=an6 (s:=s) af af a af (λi=>hA.qs (tq h) i)
def ap2{s t:Nat}(hs:s≤100000000){a b:List Rat}(la:a.length≤500)(lb:b.length≤500)(aN:0<max a.length b.length)(hA:Ht (2^t) (lx a))(hB:Ht (2^t) (lx b))(h:t<32*s):aG Tryz.prog 202 [cS .q a,cS .q b] (cS .q (eh (uB a (-1) b))):=an8 (s:=s) af af a b af af aN (λi=>hA.qs (tq h) i) (λi=>hB.qs (tq h) i)
def ap3(a b:List Rat):lx (eh (uB a (-1) b))=lx a-lx b:=by rw[vT,apW,Al,mD,neg_mul,one_mul,sub_def]
noncomputable def oR(L:List (Rx×Nat)):Nat→Nat→List (Rx×Int)
 |0,_=>[]
 |k+1,n=>(if 1<sz (pF (kP n) L)then[(pF (kP n) L,(n:Int))]else[])++oR L k (n+1)
def aev{L:List (Rx×Nat)}:∀(k:Nat){n:Nat},(∀x∈L,x.2<n)→oR L k n=[]
 |0,_,_=>rfl
 |k+1,n,h=>by
  have e:pF (kP n) L=1:=To λx hx=>aq (by have:=h x hx;omega)
  rw[oR,e,oK,aq af,aev k (λx hx=>by have:=h x hx;omega),kp]
def UP{A:Rx}(h:2≤sz A):∀n,n+1≤sz (pk A n)
 |0=>by rw[show pk A 0=1 from ae,oK];omega
 |n+1=>by
  have hA:A≠0:=λe=>by rw[e,kQ]at h;omega
  have ih:=UP h n;have h1:pk A n≠0:=λe=>by rw[e,kQ]at ih;omega
  have:=eK h1 hA;rw[pk];omega
def aew{c:Nat→Nat}:∀{L:List (Rx×Nat)}{x:Rx×Nat},x∈L→pk x.1 (c x.2)∣pF c L
 |y::L,x,h=>by
  rw[pF];rcases dx.1 h with rfl|h
  ·exact dvd_mul_right _ _
  ·exact fg (aew h) _
def aex{L:List (Rx×Nat)}(h:FL L){x:Rx×Nat}(hx:x∈L):x.2<sz (pF id L):=by have h1:=kD (aew (c:=id) hx) (vE h.mo).ne;have h2:=UP (h.gZ x hx).1 x.2;have h3:sz (pk x.1 x.2)≤sz (pF id L):=h1;omega
def aey{s t la:Nat}(hs:s=100000000)(ht:t≤1500)(Ef:la≤9){L:List (Rx×Nat)}(hL:FL L)(hF:sz (pF id L)=la)(hD:∀D,Mo D→D∣pF id L→Ht (2^t) D):
  ∀(k n:Nat)(w y:List Rat)(acc:List (List Rat×Int)),n+k=la+1→1≤k→1≤n→dp w→dp y→lx w=pF (kW n) L→Yp L n (lx y)→Ht (2^((11*t+15)*n)) (lx y)→y.length<w.length→
  ∃xp,CS la k n w y acc (acc++xp)∧xp.map (λp=>(lx p.1,p.2))=oR L k n∧∀p∈xp,dp p.1
 |0,_,_,_,_,_,h,_,_,_,_,_,_,_=>by omega
 |k+1,n,w,y,acc,hnk,_,hn,hw,hy,ew,hYp,UQ,bh=>by
  have mW:Mo (pF (kW n) L):=vE hL.mo;have dW:pF (kW n) L∣pF id L:=by
   refine⟨pF (λm=>m-kW n m) L,?_⟩;rw[←E8];refine Cs λx hx=>?_
   have:=hL.pos x hx;show x.2=x.2-kW n x.2+kW n x.2;unfold kW;split<;>omega
  have lw:w.length≤la:=by have:=kD dW (vE hL.mo).ne;rw[←ew,dV hw,hF]at this;exact this
  have w0:w≠[]:=λe=>by subst e;simp at bh
  have tw:Ht (2^t) (lx w):=by rw[ew];exact hD _ mW dW
  by_cases hc:1<w.length∧n<la
  ·have Kd:(11*t+15)*n≤(11*t+15)*8:=lE _ af;have tw':Ht (2^(t+4)) (bG (lx w)):=(tw.bG (n:=9) (by rw[dV hw];omega) af).le (by rw[oY,g9];exact lE _ ak);obtain⟨dw,UR⟩:∃dw,dw=eh (nc w):=⟨_,ae⟩;have Jn:lx dw=bG (lx w):=by rw[UR,vT,aen]
   have US:dp dw:=by rw[UR];exact yQ _
   have c1:aG Tryz.prog 196 [cS .q w] (cS .q dw):=by rw[UR];exact aeu (s:=s) (t:=t) af af tw af
   have ldw:dw.length<w.length:=by have:=HU (Q:=lx w);rw[←Jn,dV US,dV hw]at this;omega
   have ata:1≤dw.length:=by have:=eN (abw (Q:=lx w) (by rw[dV hw];omega));rw[←Jn,dV US]at this;omega
   obtain⟨u,eu⟩:∃u,u=(11*t+15)*n:=⟨_,ae⟩;rw[←eu]at UQ Kd;have e11:(11*t+15)*(n+1)=u+(11*t+15):=by rw[eu,Gd]
   have lift:∀{a b:Nat}{A:Rx},Ht (2^a) A→a≤b→Ht (2^b) A:=λh kK=>h.le (jP ak kK)
   have c2:=ap2 (s:=s) (t:=u+t+4) (a:=y) (b:=dw) af af af af (lift UQ af) (by rw[Jn];exact lift tw' af) af;have ez:=ap3 y dw;have qz:=yQ (uB y (-1) dw);generalize eh (uB y (-1) dw)=z at c2 ez qz;rw[Jn]at ez;have tz:Ht (2^(u+t+5)) (lx z):=by rw[ez];refine(UQ.sub tw').le (O6 ?_);rw[←oY,g9,←iX,show(u+(t+4)).succ=u+t+5 by omega]
   have lz:z.length<w.length:=by have:=HO (lx y) (bG (lx w));rw[←ez,←Jn,dV qz,dV hy,dV US]at this;omega
   have UU:3^w.length≤19683:=dG (jP ak (show w.length≤9 by omega)) ak;have hb9:(u+t+5+1)*3^w.length≤32*s:=by refine dG (lE _ UU) ?_;omega
   obtain⟨p,c3,qp,gp⟩:=aet (s:=s) (t:=u+t+5) (a:=w) (b:=z) af hw qz w0 (.inr lz) af (lift tw af) tz hb9;have gp':=gp;rw[ez,ew]at gp';obtain⟨ep,y2,ey2,hY2⟩:=al7 hL hYp gp';have mP:=gp.mo;have p0:p≠[]:=λe=>by rw[e,xi]at mP;exact mP.ne ae
   have dP:lx p∣pF id L:=dvd_trans (ew▸gp.l) dW;have tp:=hD _ mP dP;have lp:=cX.2 p0;have ew2:lx w=pF (kW (n+1)) L*lx p:=by rw[ew,ep,ML,mul_comm]
   have CT:∀x:List Rat,x.length≤9→(t+1)*(x.length+1-p.length)≤(t+1)*9:=λx hx=>lE _ af
   have c4:=N2 (s:=s) (t:=t) (u:=t) (a:=w) (b:=p) af qp p0 af (by have:=kD gp.l (Fw hw w0);rw[dV qp,dV hw]at this;omega) tw tp (by have:=CT w af;omega) af;have Jo:lx (g8 w p)=pF (kW (n+1)) L:=Am mP.ne ((As hw qp p0 gp.l).symm.trans ew2);have lpw:p.length≤w.length:=by have:=kD gp.l (Fw hw w0);rw[dV qp,dV hw]at this;exact this
   have c5:=N2 (s:=s) (t:=u+t+5) (u:=t) (a:=z) (b:=p) af qp p0 af af tz tp (by have:=CT z af;omega) af;have ezq:lx (g8 z p)=y2:=Am mP.ne ((As qz qp p0 gp.r).symm.trans (by rw[ez,ew];exact ey2));have UW:Ht (2^((11*t+15)*(n+1))) (lx (g8 z p)):=by refine lift (N0 qp p0 tz tp).1 ?_;have:=CT z af;omega
   have UX:(g8 z p).length<(g8 w p).length:=by have e1:=eK (vE (c:=kW (n+1)) hL.mo).ne mP.ne;rw[←ew2,dV hw,←Jo,dV (Fy w p),dV qp]at e1;have e2:=aeo z p;omega
   obtain⟨xp,o1,o2,o3⟩:=aey hs ht Ef hL hF hD k (n+1) (g8 w p) (g8 z p) (if 1<p.length then acc++[(p,(n:Int))]else acc) af af af (Fy w p) (Fy z p) Jo (by rw[ezq];exact hY2) UW UX;have e9:acc++((if 1<p.length then[(p,(n:Int))]else[])++xp)=(if 1<p.length then acc++[(p,(n:Int))]else acc)++xp:=by split<;>simp
   refine⟨(if 1<p.length then[(p,(n:Int))]else[])++xp,by rw[CS,aw hc];exact⟨dw,z,p,g8 w p,g8 z p,c1,c2,c3,c4,c5,by rw[e9];exact o1⟩,?_,?_⟩
   ·rw[dZ,o2,oR,←ep,dV qp];congr 1;split<;>rfl
   ·intro q hq;rcases bX.1 hq with h|h
    ·split at h
     ·rw[jw.1 h];exact qp
     ·simp at h
    ·exact o3 q h
  ·refine⟨[],by rw[CS,aq hc];exact kp _,?_,by simp⟩;rw[aev];rfl;intro x hx;by_cases e:n<la
   ·have hw1:w.length=1:=by have:=cX.2 w0;omega
    have e1:pF (kW n) L=1:=mW.unit (by rw[←ew,dV hw];exact hw1);refine Nat.lt_of_not_le λhle=>?_
    have:=E9 (c:=kW n) hx (by rw[Ct.2 hle];omega);rw[e1]at this;exact(hL.gZ x hx).xb this
   ·have:=aex hL hx;omega
def ap'{t:Nat}(ht:t≤1500){a:List Rat}(ha:dp a)(h0:a≠[])(la:a.length≤9)(hA:Ht (2^t) (lx a)){L:List (Rx×Nat)}(hL:FL L)(hF:pF id L=lx (dI a))(hD:∀D,Mo D→D∣pF id L→Ht (2^t) D):
  ∃out,mY Tryz.prog 134 [cS .q a] 80 UT out∧out.map (λp=>(lx p.1,p.2))=oR L a.length 1∧∀p∈out,dp p.1:=by
 have hl:=cX.2 h0
 have hm:=NY ha h0
 have lm:=NZ ha
 obtain⟨s,hs⟩:∃s,s=100000000:=⟨_,ae⟩
 have lift:∀{a b:Nat}{A:Rx},Ht (2^a) A→a≤b→Ht (2^b) A:=λh kK=>h.le (jP ak kK)
 have tF:Ht (2^t) (lx (dI a)):=by rw[←hF];exact hD _ (hF▸hm) (dvd_refl _)
 have IY:=hA.qs (s:=s) (tq af) (a.length-1)
 have c1:=aeu (s:=s) (t:=t) (a:=a) af af hA af
 have ed:lx (eh (nc a))=bG (lx a):=by rw[vT,aen]
 have qd:=yQ (nc a)
 have tdn:∀{A:Rx},sz A≤9→Ht (2^t) A→Ht (2^(t+4)) (bG A):=λhz h=>(h.bG hz af).le (by rw[oY,g9];exact lE _ ak)
 have td:Ht (2^(t+4)) (lx (eh (nc a))):=by rw[ed];exact tdn (by rw[dV ha];omega) hA
 have ld:(eh (nc a)).length<a.length:=by have:=HU (Q:=lx a);rw[←ed,dV qd,dV ha]at this;omega
 generalize eh (nc a)=d at*
 have UU:3^a.length≤19683:=dG (jP ak (show a.length≤9 by omega)) ak
 obtain⟨g,c2,qg,gg⟩:=aet (s:=s) (t:=t+4) (a:=a) (b:=d) af ha qd h0 (.inr ld) af (lift hA af) td (by refine dG (lE _ UU) ?_;omega)
 obtain⟨c,ec⟩:∃c,c=(a.getD (a.length-1) 0)⁻¹ :=⟨_,ae⟩
 have oF:c≠0:=by rw[ec];exact tn (ha.ne h0)
 have eM:lx (dI a)=K c*lx a:=by rw[Fz h0,ec]
 have gF:ID (lx g) (pF id L) (bG (pF id L)):=by obtain⟨g1,g2,g3,U,V,g4⟩:=gg;rw[hF,eM,EC];rw[ed]at g3 g4;refine⟨g1,fg g2 _,fg g3 _,U*K c⁻¹,V*K c⁻¹,?_⟩;have e1:U*K c⁻¹ *(K c*lx a)+V*K c⁻¹ *(K c*bG (lx a))=(K c⁻¹ *K c)*(U*lx a)+(K c⁻¹ *K c)*(V*bG (lx a)):=kI;rw[e1,pC oF,one_mul,one_mul];exact g4
 obtain⟨eg,Y,eY,hY⟩:=al6 hL gF
 have mg:=gg.mo
 have g0:g≠[]:=λe=>by rw[e,xi]at mg;exact mg.ne ae
 have tg:=hD _ mg gF.l
 have lg:=cX.2 g0
 have c3:aG Tryz.prog 199 [cS .q a] (cS .q (dI a)):=by have:=ac7 (s:=s) af af a h0 af (ha.ne h0) (λi=>hA.qs (tq af) i) (IY.inv (ha.ne h0));rw[dI,aq h0];exact this
 have CT:∀x:List Rat,x.length≤9→(t+1)*(x.length+1-g.length)≤(t+1)*9:=λx hx=>lE _ af
 have lga:g.length≤(dI a).length:=by have:=kD gF.l (vE hL.mo).ne;rw[hF,dV qg,dV (vU a)]at this;exact this
 have c4:=N2 (s:=s) (t:=t) (u:=t) (a:=dI a) (b:=g) af qg g0 af af tF tg (by have:=CT (dI a) af;omega) af
 have c5:=ac6 (s:=s) af a h0 af (ha.ne h0) IY
 rw[←ec]at c5
 have hcq:QS s c:=by rw[ec];exact IY.inv (ha.ne h0)
 have c6:=Uh (s:=s) af af c d af hcq (λi=>td.qs (tq af) i)
 have UY:lx (eh (oi c d))=bG (pF id L):=by rw[vT,aem,ed,hF,eM,EC]
 have qsd:=yQ (oi c d)
 have lsd:(eh (oi c d)).length≤d.length:=by refine dG (NT _) ?_;rw[oi,dJ];exact bF _
 generalize eh (oi c d)=sd at*
 have tsd:Ht (2^(t+4)) (lx sd):=by rw[UY,hF];exact tdn (by rw[dV (vU a)];omega) tF
 have c7:=N2 (s:=s) (t:=t+4) (u:=t) (a:=sd) (b:=g) af qg g0 af af tsd tg (by have:=CT sd af;omega) af
 have Jo:lx (g8 (dI a) g)=pF (kW 1) L:=Am mg.ne ((As (vU a) qg g0 (hF▸gF.l)).symm.trans (by rw[←hF,MM hL,eg]))
 have eyq:lx (g8 sd g)=Y:=Am mg.ne ((As qsd qg g0 (by rw[UY];exact gF.r)).symm.trans (by rw[UY];exact eY))
 have UW:Ht (2^((11*t+15)*1)) (lx (g8 sd g)):=by refine lift (N0 qg g0 tsd tg).1 ?_;have:=CT sd af;omega
 have UX:(g8 sd g).length<(g8 (dI a) g).length:=by have e1:=eK (vE (c:=kW 1) hL.mo).ne mg.ne;rw[eg,←MM hL,←eg,hF,dV (vU a),←Jo,dV (Fy _ g),dV qg]at e1;have e2:=aeo sd g;omega
 obtain⟨xp,o1,o2,o3⟩:=aey (la:=a.length) hs ht la hL (by rw[hF,dV (vU a),lm]) hD a.length 1 (g8 (dI a) g) (g8 sd g) [] af af af (Fy _ g) (Fy sd g) Jo (by rw[eyq];exact hY) UW UX
 exact⟨xp,apU a d g (dI a) (g8 (dI a) g) sd (g8 sd g) c af c1 c2 c3 c4 c5 c6 c7 a.length xp o1,o2,o3⟩
end Go.El
namespace Go.El
open Go Go.Proofs
namespace Rx
def N3(t:Rat)(m:Nat):∀n:Nat,t^(m+n)=t^m*t^n
 |0=>by rw[j6,zh,Bb]
 |n+1=>by rw[←tA,zi,N3 t m n,zi,uL]
def UZ(s t:Rat):∀n:Nat,(s*t)^n=s^n*t^n
 |0=>by rw[zh,zh,zh,Bb]
 |n+1=>by rw[zi,zi,zi,UZ s t n];grind
def U2:∀n:Nat,(1:Rat)^n=1
 |0=>zh _
 |n+1=>by rw[zi,U2 n,Bb]
def FA{t:Rat}(h:t≠0):∀n:Nat,t^n≠0
 |0=>by rw[zh];decide
 |n+1=>λe=>by
  rw[zi]at e;rcases Dg.1 e with e|e
  ·exact FA h n e
  ·exact h e
def gO(t:Rat)(A:Rx):Rx:=⟨λi=>t^i*A i,by obtain⟨n,hn⟩:=A.2;exact⟨n,λi hi=>by show t^i*A.v i=0;rw[hn i hi,jG]⟩⟩
def pM(t:Rat)(A:Rx)(i:Nat):gO t A i=t^i*A i:=rfl
def N4(t:Rat)(A B:Rx):gO t (A*B)=gO t A*gO t B:=ext λn=>by
 rw[pM,gN,gN,←MH];refine vC λi hi=>?_
 rw[pM,pM];have:t^n=t^i*t^(n-i):=by rw[←N3,show i+(n-i)=n by omega]
 rw[this];grind
def aqd(t:Rat)(A B:Rx):gO t (A+B)=gO t A+gO t B:=ext λn=>by rw[pM,fJ,fJ,pM,pM,Rat.mul_add]
def aqe(t c:Rat):gO t (K c)=K c:=ext λn=>by
 rw[pM,qQ];split
 ·rename_i h;rw[h,zh,zm]
 ·rw[jG]
def aeE(t:Rat):gO t 1=1:=aqe t 1
def aeF(s t:Rat)(A:Rx):gO s (gO t A)=gO (s*t) A:=ext λn=>by rw[pM,pM,pM,UZ,uL]
def aeG(A:Rx):gO 1 A=A:=ext λn=>by rw[pM,U2,zm]
def aqf(t:Rat)(A:Rx):bG (gO t A)=K t*gO t (bG A):=ext λn=>by rw[rW,pM,iA,pM,rW,zi];grind
def N5{t:Rat}(ht:t≠0)(A:Rx):sz (gO t A)=sz A:=by
 have key:∀(s:Rat)(B:Rx),sz (gO s B)≤sz B:=λs B=>vD λi hi=>by rw[pM,oa hi,jG]
 have h1:=key t A;have h2:=key t⁻¹ (gO t A);rw[aeF,ou t ht,aeG]at h2;omega
def cp.gO{t:Rat}(ht:t≠0){A:Rx}(h:cp A):cp (gO t A):=by
 refine⟨by rw[N5 ht];exact h.1,λX Y e=>?_⟩;have e2:A=Rx.gO t⁻¹ X*Rx.gO t⁻¹ Y:=by rw[←N4,←e,aeF,ou t ht,aeG]
 have:=h.2 _ _ e2;rwa[N5 (tn ht),N5 (tn ht)]at this
def Co.gO{t:Rat}{A B:Rx}(h:Co A B):Co (gO t A) (Rx.gO t B):=by obtain⟨U,V,e⟩:=h;refine⟨Rx.gO t U,Rx.gO t V,?_⟩;rw[←N4,←N4,←aqd,e,aeE]
noncomputable def mS(t:Rat)(A:Rx):Rx:=K (t^(sz A-1))*gO t⁻¹ A
def aeH{t:Rat}(ht:t≠0)(A:Rx):sz (mS t A)=sz A:=by
 by_cases h:A=0
 ·subst h;have e:gO t⁻¹ 0=(0:Rx):=ext λi=>by rw[pM,lR,jG]
  rw[mS,e,mul_zero]
 ·have h1:=N5 (tn ht) A;have h2:gO t⁻¹ A≠0:=λe=>by rw[e,kQ]at h1;have:=eN h;omega
  have h3:=eK (ug (FA ht (sz A-1))) h2;rw[uh (FA ht _),h1]at h3;show sz (K _*_)=_;omega
def Jp{t:Rat}(ht:t≠0)(n:Nat):t^n*t⁻¹ ^n=1:=by rw[←UZ,Rat.mul_inv_cancel t ht,U2]
def Jq{t:Rat}(A:Rx)(i:Nat):mS t A i=t^(sz A-1)*(t⁻¹ ^i*A i):=by rw[mS,iA,pM]
def aqg{t:Rat}(ht:t≠0){A:Rx}(h:Mo A):Mo (mS t A):=by rw[Mo,aeH ht,Jq,←uL,Jp ht,zm];exact h
def aqh(t:Rat):mS t 1=1:=by rw[mS,oK,aeE,mul_one];show K (t^0)=1;rw[zh,mD]
def aqi{t:Rat}{A B:Rx}(hA:A≠0)(hB:B≠0):mS t (A*B)=mS t A*mS t B:=by have h:=eK hA hB;have h1:=eN hA;have h2:=eN hB;rw[mS,mS,mS,N4,show sz (A*B)-1=(sz A-1)+(sz B-1)by omega,N3,gA];ac_rfl
def aqj{t:Rat}(ht:t≠0)(A:Rx):mS t⁻¹ (mS t A)=A:=ext λi=>by rw[Jq,Jq,aeH ht,Rat.inv_inv];have h1:=Jp ht (sz A-1);have h2:=Jp ht i;grind
def aqk{t:Rat}(ht:t≠0){A:Rx}(h:cp A):cp (mS t A):=cp.smul (h.gO (tn ht)) (FA ht _)
def aql{t:Rat}(ht:t≠0){A:Rx}(h:Co A (bG A)):Co (mS t A) (bG (mS t A)):=by have hu:=FA ht (sz A-1);have hv:=tn ht;obtain⟨U,V,e⟩:=h.gO (t:=t⁻¹);refine⟨K (t^(sz A-1))⁻¹ *U,K (t^(sz A-1))⁻¹ *(K (t⁻¹)⁻¹ *V),?_⟩;rw[mS,EC,aqf,←e];have e1:=pC hu;have e2:=pC hv;have a1:K (t^(sz A-1))⁻¹ *U*(K (t^(sz A-1))*gO t⁻¹ A)=(K (t^(sz A-1))⁻¹ *K (t^(sz A-1)))*(U*gO t⁻¹ A):=kI;have a2:K (t^(sz A-1))⁻¹ *(K (t⁻¹)⁻¹ *V)*(K (t^(sz A-1))*(K t⁻¹ *gO t⁻¹ (bG A)))=(K (t^(sz A-1))⁻¹ *K (t^(sz A-1)))*((K (t⁻¹)⁻¹ *K t⁻¹)*(V*gO t⁻¹ (bG A))):=kI;rw[a1,a2,e1,e2,one_mul,one_mul,one_mul]
end Rx
end Go.El
namespace Go.El
open Go Go.Proofs Rx
def jW(a:List Rat):Nat→Nat
 |0=>1
 |i+1=>jW a i*((a.getD i 0).den/Nat.gcd (jW a i) (a.getD i 0).den)
def dX(a:List Rat):Nat:=jW a a.length
def pN(a:List Rat):List Int:=(List.range a.length).map λk=>(a.getD k 0).num*((dX a:Nat):Int)^(a.length-1-k)/((a.getD k 0).den:Int)
def l8(c:Nat)(g:List Int):List Rat:=(List.range g.length).map λk=>Rat.divInt (g.getD k 0) ((c:Int)^(g.length-1-k))
noncomputable def vV(a:List Rat):List (List Rat):=(uD (pN a)).map (l8 (dX a))
noncomputable def yT:List (List Rat)→Rx
 |[]=>1
 |u::l=>lx u*yT l
def U3(a:List Rat)(i:Nat):jW a (i+1)=Nat.lcm (jW a i) (a.getD i 0).den:=by rw[jW,Nat.lcm,Nat.mul_div_assoc _ (Wa _ _)]
def N6(a:List Rat):∀i,∀j,j<i→(a.getD j 0).den∣jW a i
 |0,_,h=>by omega
 |i+1,j,h=>by
  rw[U3];by_cases e:j=i
  ·subst e;exact Nat.dvd_lcm_right _ _
  ·exact O1 (N6 a i j af) (Nat.dvd_lcm_left _ _)
def aeI(a:List Rat){D:Nat}(h:∀j,(a.getD j 0).den∣D):∀i,jW a i∣D
 |0=>Nat.one_dvd _
 |i+1=>by rw[U3];exact Nat.lcm_dvd (aeI a h i) (h i)
def N7(a:List Rat):∀i,0<jW a i
 |0=>Nat.zero_lt_one
 |i+1=>by rw[U3];exact Nat.lcm_pos (N7 a i) (a.getD i 0).den_pos
def CU(a:List Rat):(pN a).length=a.length:=by simp[pN]
def N8(a:List Rat){k:Nat}(h:k<a.length):(pN a).getD k 0=(a.getD k 0).num*((dX a:Nat):Int)^(a.length-1-k)/((a.getD k 0).den:Int):=by unfold pN;rw[aY,j3,ot h];rfl
def U4(r:Rat){D:Int}(h:(r.den:Int)∣D):((r.num*D/(r.den:Int):Int):Rat)=(D:Rat)*r:=by
 obtain⟨e,rfl⟩:=h;have hd:(r.den:Int)≠0:=by have:=r.den_pos;omega
 have h1:r.num*((r.den:Int)*e)/(r.den:Int)=r.num*e:=by rw[show r.num*((r.den:Int)*e)=(r.num*e)*(r.den:Int)by ac_rfl,Int.mul_ediv_cancel _ hd]
 rw[h1,iW,iW,←IG r];have:(((r.den:Nat):Int):Rat)=((r.den:Nat):Rat):=rfl;rw[this];grind
structure pO(a:List Rat):Prop where
 one:a.getD (a.length-1) 0=1
 l2:2≤a.length
 l9:a.length≤9
 co:Co (lx a) (bG (lx a))
 aB:∀i,aU 6 ((pN a).getD i 0)
section
variable{a:List Rat}
def Jr(a:List Rat):((dX a:Nat):Rat)≠0:=AB (V4.1 (N7 a _))
def pO.can(h:pO a):dp a:= .inr (by rw[h.one];decide)
def pO.sz(h:pO a):Rx.sz (lx a)=a.length:=dV h.can
def U5(c:Nat):∀n:Nat,(((c:Int)^n:Int):Rat)=((c:Nat):Rat)^n
 |0=>by rw[wm,zh];rfl
 |n+1=>by rw[fO,iW,U5 c n,zi];rfl
def aeJ{t:Rat}(ht:t≠0){m k:Nat}(h:k≤m):t^m*t⁻¹ ^k=t^(m-k):=by
 have e:t^m=t^(m-k)*t^k:=by rw[←N3,show m-k+k=m by omega]
 rw[e,uL,Jp ht,Bb]
def pO.zx(h:pO a):Rx.zx (pN a)=mS ((dX a:Nat):Rat) (lx a):=Rx.ext λi=>by
 rw[l7,Jq,h.sz,l5];by_cases hi:i<a.length
 ·rw[N8 a hi,U4,U5,←uL,aeJ (Jr a) af];by_cases e:i=a.length-1
  ·rw[e,h.one];exact Int.one_dvd _
  ·have h1:(a.getD i 0).den∣dX a:=N6 a _ i hi;have h2:((a.getD i 0).den:Int)∣((dX a:Nat):Int):=C8.2 h1;obtain⟨j,hj⟩:∃j,a.length-1-i=j+1:=⟨a.length-1-i-1,by omega⟩;rw[hj,fO];exact J3 h2 (OS _ _)
 ·rw[dz _ (by rw[CU];omega),nK a af,jG,jG];rfl
def pO.bQ(h:pO a):bQ (pN a):=by have h1:=h.l2;refine⟨λe=>by have:=CU a;rw[e]at this;simp at this;omega,?_⟩;rw[CU,N8 a af,h.one,iG,wm];rfl
def pO.mf(h:pO a):oq (pN a):=by
 have l2:=h.l2;have l9:=h.l9;refine⟨h.bQ,by rw[CU];exact l2,by rw[CU];exact l9,h.aB,?_⟩;obtain⟨n,hn⟩:∃n,a.length=n+2:=⟨a.length-2,by omega⟩;have TN:Co (Rx.zx (pN a)) (bG (Rx.zx (pN a))):=by rw[h.zx];exact aql (Jr a) h.co
 refine anr (n:=n) (by rw[CU];exact hn) h.bQ TN (B:=2^192) ak (λi=>?_) ?_
 ·have:=h.aB i;unfold aU at this;have e:(4294967296:Nat)^6=2^192:=ak;omega
 ·have e1:2*((2*n+2)*((n+1)*2^192))≤2^200:=by have h1:(2*n+2)*(n+1)≤16*8:=nk af af;have h2:=dY (2^192) h1;rw[←xG (2*n+2)];omega
  refine dG (F6 e1 _) ?_;refine dG (jP ak (show 2*n+1≤15 by omega)) ?_;decide+kernel
def aeK(c:Nat)(g:List Int):(l8 c g).length=g.length:=by simp[l8]
def aeL(c:Nat)(g:List Int){k:Nat}(h:k<g.length):(l8 c g).getD k 0=Rat.divInt (g.getD k 0) ((c:Int)^(g.length-1-k)):=by unfold l8;rw[aY,j3,ot h];rfl
def aqm(z:Int){c:Nat}(hc:0<c)(n:Nat):Rat.divInt z ((c:Int)^n)=((c:Nat):Rat)⁻¹ ^n*(z:Rat):=by
 have h0:((c:Nat):Rat)≠0:=AB af;rw[OR,U5,Rat.div_def];have h1:=Jp h0 n;have h2:(((c:Nat):Rat)^n)⁻¹ =((c:Nat):Rat)⁻¹ ^n:=by have h3:=ou _ (FA h0 n);grind
 rw[h2,O7]
def aeM{c:Nat}(hc:0<c){g:List Int}(hg:Go.El.bQ g):lx (l8 c g)=mS ((c:Nat):Rat)⁻¹ (Rx.zx g):=Rx.ext λi=>by
 have h0:((c:Nat):Rat)≠0:=AB af;rw[Jq,mL (bQ.can hg),l7,l5];by_cases hi:i<g.length
 ·rw[aeL c g hi,aqm _ hc,←uL,aeJ (tn h0) af]
 ·rw[nK _ (by rw[aeK];omega),dz g af];show(0:Rat)=_*(_*((0:Int):Rat));rw[show((0:Int):Rat)=0 from ae,jG,jG]
def aeN{c:Nat}{g:List Int}(hg:Go.El.bQ g):(l8 c g).getD ((l8 c g).length-1) 0=1:=by have:=cX.2 hg.1;rw[aeK,aeL c g af,hg.2,iG,wm];rfl
def aeO{c:Nat}(hc:0<c):∀{gs:List (List Int)},(∀g∈gs,Go.El.bQ g)→yT (gs.map (l8 c))=mS ((c:Nat):Rat)⁻¹ (rY gs)
 |[],_=>(aqh _).symm
 |g::gs,h=>by
  have hz:rY gs≠0:=by
   have key:∀{gs:List (List Int)},(∀g∈gs,Go.El.bQ g)→rY gs≠0:=by
    intro gs;induction gs with
    |nil=>intro _;exact n6
    |cons g gs ih=>intro h;exact oJ (oe (h g be)).ne (ih λx hx=>h x lC)
   exact key λx hx=>h x lC
  rw[jF,yT,rY,aqi (oe (h g be)).ne hz,aeM hc (h g be),aeO hc λx hx=>h x lC]
def Js(h:pO a):(∀u∈vV a,u.getD (u.length-1) 0=1∧dp u∧Mo (lx u)∧cp (lx u))∧yT (vV a)=lx a:=by
 obtain⟨h1,h2⟩:=aei h.mf;have hc:0<dX a:=N7 a _;refine⟨λu hu=>?_,?_⟩
 ·obtain⟨g,hg,rfl⟩:=nQ.1 hu;obtain⟨g1,g2⟩:=h1 g hg;rw[aeM hc g1];exact⟨aeN g1,.inr (by rw[aeN g1];decide),aqg (tn (Jr a)) (oe g1),aqk (tn (Jr a)) g2⟩
 ·rw[vV,aeO hc λg hg=>(h1 g hg).1,h2,h.zx,aqj (Jr a)]
end
end Go.El
namespace Go.El
open Go Go.Proofs
def U6(m:Nat):Bool:=Nat.beq (m%2) 0||(!(Nat.beq (Ae 2 (m-1) m) 1)||gD.any (Nat.beq m))
def Jt:Nat→Nat→Bool
 |0,l=>U6 (1073741825+l)
 |d+1,l=>Jt d (2*l)&&Jt d (2*l+1)
def U7:∀(d l:Nat),Jt d l=true→∀x,x<2^d→U6 (1073741825+(2^d*l+x))=true
 |0,l,h,x,hx=>by
  have:x=0:=by simpa using hx
  subst this;rw[xI,iZ,j6];exact h
 |d+1,l,h,x,hx=>by
  rw[Jt,eQ]at h;rw[iX]at hx⊢;by_cases e:x<2^d
  ·have:=U7 d _ h.1 x e;rwa[show 2^d*(2*l)=2^d*2*l by ac_rfl]at this
  ·have:=U7 d _ h.2 (x-2^d) af;rwa[show 2^d*(2*l+1)+(x-2^d)=2^d*2*l+x by rw[Dk,show 2^d*(2*l)=2^d*2*l by ac_rfl];omega]at this
def aqn:Jt 11 0=true:=gI
def aqo{m:Nat}(h1:1073741824<m)(h2:m<1073743872)(h:m∉gD):aG Tryz.prog 60 [cU m] (cB false):=by
 have hc:=U7 11 0 aqn (m-1073741825) (by show _<2048;omega);rw[J6,eR,show 1073741825+(m-1073741825)=m by omega,U6,zd,zd]at hc;refine amk m af af ?_;rcases hc with hc|hc|hc
 ·exact .inl (Da hc)
 ·refine .inr λe=>?_
  rw[LC 2 (m-1) m af af,e]at hc;cases hc
 ·obtain⟨y,hy,e⟩:=List.any_eq_true.1 hc;exact absurd (by rw[Da e];exact hy) h
def aqp{n p:Nat}(hn:1073741824≤n)(hp:p∈gD)(LJ:n<p)(ef:∀m,n<m→m<p→m∉gD):aG Tryz.prog 256 [cU n] (.t [(false,[.I .u64 p]),(false,[.I .i64 0])]):=by obtain⟨b1,b2⟩:=vI hp;exact amj n p LJ af (λm g1 g2=>aqo af af (ef m g1 g2)) (RH p (MU hp) af)
end Go.El
namespace Go.El
open Go Go.Proofs Fx
def aqq:((List.zip gD (gD.tail)).all λx=>Nat.blt x.1 x.2)=true:=gI
def aeP:∀{l:List Nat},((List.zip l l.tail).all λx=>Nat.blt x.1 x.2)=true→l.Pairwise (·<·)
 |[],_=>List.Pairwise.nil
 |[x],_=>OH _ _
 |x::y::l,h=>by
  simp only[List.tail_cons,List.zip_cons_cons,List.all_cons,eQ]at h;have h1:x<y:=by have:=h.1;unfold Nat.blt at this;exact cT this
  have h2:=aeP (l:=y::l) h.2;refine jZ.2 ⟨λz hz=>?_,h2⟩;rcases dx.1 hz with rfl|hz
  ·exact h1
  ·exact Nat.lt_trans h1 ((jZ.1 h2).1 z hz)
def aqr:gD.Pairwise (·<·):=aeP aqq
structure FC(a:List Int)(n:Nat)(rest:List Nat):Prop where
 n0:1073741824≤n
 pre:∃pre,gD=pre++rest∧(∀q∈pre,q≤n)∧∀q∈pre,qW q a=false
 lt:∀q∈rest,n<q
 ex:∃q∈rest,qW q a=true
def oq.pr0{a:List Int}(h:oq a):FC a 1073741824 gD:=by obtain⟨p,_,f2,f3⟩:=h.vP;exact⟨bF _,⟨[],ae,λq hq=>(by cases hq),λq hq=>(by cases hq)⟩,λq hq=>(vI hq).1,⟨p,f2,f3⟩⟩
def FC.step{a:List Int}{n:Nat}{rest:List Nat}(h:FC a n rest):∃q r,rest=q::r∧q∈gD∧n<q∧(∀m,n<m→m<q→m∉gD)∧(qW q a=true→gD.find? (qW · a)=some q)∧(qW q a=false→FC a q r):=by
 obtain⟨h1,⟨pre,h2,h3,h4⟩,h5,⟨g,h6,h7⟩⟩:=h;cases rest with
 |nil=>cases h6
 |cons q r=>
  have hs:=aqr
  rw[h2]at hs
  have rV:=jZ.1 (AZ.1 hs).2.1
  have hq:n<q:=h5 q be
  refine⟨q,r,ae,by rw[h2];simp,hq,λm qi mz hm=>?_,λhg=>?_,λhg=>⟨by omega,⟨pre++[q],by rw[h2,nj];rfl,λx hx=>?_,λx hx=>?_⟩,rV.1,?_⟩⟩
  ·rw[h2]at hm;rcases bX.1 hm with e|e
   ·have:=h3 m e;omega
   ·rcases dx.1 e with e|e
    ·omega
    ·have:=rV.1 m e;omega
  ·rw[h2,List.find?_append,JU.2 (λx hx=>by rw[h4 x hx];decide)];simp[hg]
  ·rcases bX.1 hx with e|e
   ·have:=h3 x e;omega
   ·rw[jw.1 e];omega
  ·rcases bX.1 hx with e|e
   ·exact h4 x e
   ·rw[jw.1 e];exact hg
  ·rcases dx.1 h6 with e|e
   ·rw[e,hg]at h7;cases h7
   ·exact⟨g,e,h7⟩
def aeQ{x y:Int}:dn x y≤0↔x≤y:=by
 unfold dn;split
 ·omega
 ·split<;>omega
def dd.aeR(E:TypeId)(z:Nat)(c d:C):dd (.box E z [c,d]) (.box E z [.any,.any]):=⟨λN g W id h=>by obtain⟨b,vs,rest,h1,h2,h3,h4⟩:=h;obtain⟨v,r,rfl,_,v2,r2,rfl,_,h5⟩:=h3;exact⟨b,_,rest,h1,h2,⟨v,_,ae,ah,v2,r2,ae,ah,h5⟩,h4⟩,λid h=>by cases h⟩
set_option maxRecDepth 100000 in
set_option maxHeartbeats 16000000 in
def aqt{a:List Int}(h:oq a):aG Tryz.prog 204 [cS .z a] (cS (.sl .z) (uD a)):=by
 refine aX Tryz.func204 ae ae ae ae ae ak ?_;have l2:=h.l2;have l9:=h.l9;have Nb:∀i,Sm (a.getD i 0):=λi=>(h.aB i).sm ak
 refine rr ae (aj (rr ae (ax ae (λh2=>?_) (λh2=>?_))))
 ·have h2:a.length=2:=by have h2:((a.length:Int)==2)=true:=h2;have:=eq_of_beq h2;omega
  rw[aef h2];refine rb (rl (.sl .z) [a] ae ae (re ae (aF (bW (aL ar ae (au.refl _))))))
 ·have h2:a.length≠2:=λe=>by have h2:((a.length:Int)==2)=false:=h2;rw[e]at h2;cases h2
  refine aC (ai (rr ae (rr ae ?_)));refine aj (aK (bA (α:=Nat×List Nat) (λs=>⟨[(0,cS .z a),(3,cU s.1),(4,.c (.P 3000000 0))],[(3000000,.box 101 0 [.any,.any])],4,[]⟩) (λs=>FC a s.1 s.2) (λs=>s.2.length) (1073741824,gD) h.pr0 (wk ⟨sR ae,sR ae,sR ae,ah⟩ ⟨⟨_,ae,dd.aeR _ _ _ _⟩,ah⟩) ?_));rintro⟨n,rest⟩ hP;have hP:FC a n rest:=hP;obtain⟨q,r,rfl,q1,q2,q3,q4,q5⟩:=hP.step;have H:=NS q1;obtain⟨b1,b2⟩:=vI q1;have hf:bV q (a6 (md q a)):=nC H.pos (BY H.pos a);have hd:bV q (a6 (fq q (a6 (md q a)))):=nC H.pos (Mu af _);have N9:a6 (md q a)=md q a:=(h.am.md af).trim;have nW:(a6 (md q a)).length=a.length:=by rw[N9,yo]
  have ig:a6 (md q a)≠[]:=λe=>by rw[e]at nW;simp at nW;omega
  have Mv:(a6 (fq q (a6 (md q a)))).length≤500:=by have:=vp (fq q (a6 (md q a)));rw[Ir]at this;omega
  have jr:(gh q (a6 (md q a)) (a6 (fq q (a6 (md q a))))).length≤1000000:=by obtain⟨m1,m2,_⟩:=ED H hf hd ig;have h1:=kD H m2 (λe=>ig (by rw[←n5]at e;exact w9 hf (vo H.pos) e));rw[de m1.c,de hf]at h1;omega
  refine aK (rb (rc ae ae (aqp hP.n0 q1 q2 q3) (re ae ?_)));refine rb (rc ae ae (Td a q af af af Nb) (re ae ?_));refine rb (rc ae ae (aaH H _ af hf.1) (rc ae ae (LK q H.hp H.le _ _ af Mv hf hd ig) (rc ae ae (tZ _ q jr) (re ae ?_))));refine ax ae (λhg=>?_) (λhg=>?_)
  ·have hg:qW q a=true:=by have hg:(((gh q (a6 (md q a)) (a6 (fq q (a6 (md q a))))).length:Int)-1==0)=true:=hg;have:=eq_of_beq hg;exact ov af
   have hm:=h.md q1 hg;have Il:Mon q (a6 (md q a)):=by rw[N9];exact hm.f.1
   have Iq:(fx (a6 (md q a)):Fx q)=fx a:=by rw[N9];exact hm.f.2.2
   have pD:=aaF H _ Il af af (by rw[Iq];exact hm.vv);have hLs:nH H (a6 (md q a))=hm.Ls:=by rw[N9];rfl
   rw[hLs]at pD;have qJ:=abm a 6 ak af h.aB;have hbB:=h.bB;have hB7:aU 8 ((ff a:Nat):Int):=by unfold aU at*;rw[oV]at*;omega
   have e2:((ff a:Nat):Int)+((ff a:Nat):Int)=((2*ff a:Nat):Int):=af;have pG:=Ad _ _ (hB7.sm ak) (hB7.sm ak);rw[e2]at pG;refine bp (GN (br (bq (ai ?_))));refine rb (rc ae ae pD (re ae (rb (rc ae ae qJ (re ae (rb (rc ae ae pG (re ae (rb (rc ae ae (oH q af af) (re ae ?_)))))))))));obtain⟨k1,k2,k3⟩:=Jk (p:=q) af (2*ff a);obtain⟨m1,m2⟩:=h.mB q1;have aeT:=acp (h.liA q1 hm);rw[apP]at aeT;have cw:=apL (h.rn q1 hm) (hm.cbH k1 k2) (λe=>hm.Lne (ik (by rw[←hm.Fv,e];rfl)));rw[←aeg hm h2 (q4 hg)]at cw;have UC:hm.lf (ls q (2*ff a))=AF q a (λi=>hm.Ls.getD i []) hm.Ls.length (ls q (2*ff a)):=rfl;rw[UC]at cw;generalize uD a=Rr at*;have jI:∀k,k≤ls q (2*ff a)→aU 9 ((q:Int)^k):=λk hk=>by unfold aU at*;rw[←uK,oV]at*;exact zb (jP af hk) m1
   generalize ls q (2*ff a)=K at*;refine aj (aK (bA (α:=Nat) (λk=>⟨[(0,cS .z a),(3,cU q),(5,cS PT (lP q hm.Ls)),(6,.c (.P 8002000 0)),(7,.c (.P 10003000 0)),(8,cI k)],[(8002000,.box 44 0 (av .z ((2*ff a:Nat):Int))),(10003000,.box 44 0 (av .z ((q:Int)^k)))],12,[]⟩) (λk=>1≤k∧k≤K) (λk=>K-k) 1 ⟨bF _,k1⟩ (wk ⟨sR ae,sR ae,sR ae,sR ae,sR ae,sE ae ae,ah⟩ ⟨bE ae ae,bE ae ?_,ah⟩) ?_))
   ·refine az (λz=>aJ.box 44 0 (av .z z)) ?_;rw[fO,wm,iY]
   rintro k ⟨i1,i2⟩;refine aj (rb (rc ae ae (Li ((q:Int)^k) ((2*ff a:Nat):Int)) (re ae (ax ae (λh3=>?_) (λh3=>?_)))))
   ·have h3:q^k≤2*ff a:=by have h3:dn ((q:Int)^k) ((2*ff a:Nat):Int)≤0:=bc h3;rw[aeQ,←uK]at h3;omega
    have hk:k<K:=by
     rcases wj k K with e|e
     ·exact e
     ·have:k=K:=by omega
      subst this;omega
    have hmul:=tY ((q:Int)^k) q ((jI k i2).sm ak) ((aU.one (a:=(q:Int)) af).sm ak);rw[←fO]at hmul;refine aC (ai (aK (rb (rc ae ae (oH q af af) (rc ae ae hmul (re ae (rt ae (a7 (a8 (k+1) ⟨by omega,hk⟩ (by show K-(k+1)<K-k;omega) (wk ⟨sR ae,sR ae,sR ae,sR ae,sR ae,sE ae ae,ah⟩ ⟨bE ae ae,bE ae ae,ah⟩))))))))))
   ·have h3:2*ff a<q^k:=by have h3:¬dn ((q:Int)^k) ((2*ff a:Nat):Int)≤0:=bC h3;rw[aeQ,←uK]at h3;omega
    have hk:k=K:=by
     rcases wj k K with e|e
     ·have:=k3 k i1 e;omega
     ·omega
    subst hk;refine bp (bu (br (bq (ai (rb (rc ae ae aeT (rc ae ae cw (re ae (aF (aL ar ae (au.refl _)))))))))))
  ·have hg:qW q a=false:=by
    have hg:(((gh q (a6 (md q a)) (a6 (fq q (a6 (md q a))))).length:Int)-1==0)=false:=hg;refine kq λe=>?_
    rw[e]at hg;cases hg
   exact aC (a7 (a8 (q,r) (q5 hg) (by show r.length<(q::r).length;simp) (wk ⟨sR ae,sR ae,sR ae,ah⟩ ⟨⟨_,ae,dd.aeR _ _ _ _⟩,ah⟩)))
end Go.El
