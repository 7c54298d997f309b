/- Contracts: the reference's order. Own work; no condition. -/
import Derived.Test.YtceihkmakfdcnaaGreatH12
import Derived.Test.YtceihkmakfdcnaaGreatH6
import Derived.Test.YtceihkmakfdcnaaGreatH7
import Derived.Test.YtceihkmakfdcnaaGreatH9
import Derived.Test.YtceihkmakfdcnaaGreatH8
import Derived.Test.YtceihkmakfdcnaaGreatH11
set_option linter.all false
set_option maxHeartbeats 16000000
set_option maxRecDepth 100000
open Bool renaming false->ah,true->ae
open Classical renaming choose->AU
open Go.El renaming rr->I,cS->N,ar5->c,jt->S,jg->M,re->j,cI->y,rb->R,vK->r
open Go.Proofs.Tryz renaming prog->z,func206->ac'
open Int renaming toNat->af,natAbs->aA
open List renaming length->Z,getD->E,take->h,perm_append_comm->aok,drop->az,replicate->bg
open Nat renaming lt_or_eq_of_le->aoz,testBit->mQ
open _root_ renaming List->V,Int->G,Nat->Y
namespace Go.El
open Go Go.Proofs Go.RowKit Fx
def aoj(a d:V G)(l:Z a<=1000)(m:Z d<=1000):r z 254 [N aq a,N aq d] (cB<|decide<|qT a d<0):=by
 refine aJ Tryz.func254 ?_;refine I J<|M<|I J<|c J (λh=>?_)<|λh=>aD ?_
 .have h:=yl h;refine I J<|bI<|cG<|eB J<|a6 cB ?_;rw[qT,ao O,ox];refine decide_eq_decide.2 ⟨λe=>by rw[ao e];decide,λe=>?_⟩;split at e
  .assumption
  .split at e<;>omega
 .have h:(Z a:G)=(Z d:G):=wu h;rw[show qT a d=Bn a d (Z a)by rw[qT,w O]];refine M<|I J ?_;refine ay<|bf (α:=Y) (λk=>⟨[(0,N aq a),(1,N aq d),(5,y<|(k:G)-1)],[],4,[]⟩) (λk=>k<=Z a/\Bn a d (Z a)=Bn a d k) (λk=>k) (Z a) ⟨aW _,J⟩ aU ?_;rintro k ⟨n,hc⟩;refine M (I J<|c J (λf=>?_)<|λf=>?_)
  .have f:0<k:=by have f:(k:G)-1>=0:=aT f;omega
   obtain⟨j,rfl⟩:∃j,k=j+1:=⟨k-1,O⟩;have i:af (((j+1:Y):G)-1)=j:=O;refine aD<|M<|ay<|I J (hp:=aF)<|c J (λg=>?_)<|λg=>c7<|bH ?_
   .have g:E a (af<|((j+1:Y):G)-1) 0≠E d (af<|((j+1:Y):G)-1) 0:=yl g;rw[i]at g;refine I J (hp:=aF)<|bI ?_;repeat(first|refine cG ?_|refine kE ?_|refine k8 ?_)
    refine eB J ?_;show cB (decide<|List.getD a (af<|((j+1:Y):G)-1) 0<E d (af<|((j+1:Y):G)-1) 0)=_;rw[i,hc,Bn];refine a6 cB<|decide_eq_decide.2 ?_;unfold ox;split
    .rw[ao T];exact⟨λ_=>T,λ_=>by assumption⟩
    .rw[ao (O:E a j 0>E d j 0),ao T];exact⟨λe=>O,λe=>O⟩
   .have g:E a (af<|((j+1:Y):G)-1) 0=E d (af<|((j+1:Y):G)-1) 0:=wu g;rw[i]at g;refine rt J (hp:=aF) (aS j ⟨O,?_⟩ rK<|wk ⟨sR J,sR J,sE J ?_,A⟩ A)
    .rw[hc,Bn,w];unfold ox;rw[w O,w O];decide
    .exact iz (O:((j+1:Y):G)-1-1=(j:G)-1)
  .have f:k=0:=by have f:¬(k:G)-1>=0:=a4 f;omega
   subst f;rw[hc];exact bh<|aI<|I J<|cJ J
section
variable{α:Type}(d:α)(lt:α->Bool)(x:α)(l:V α)
def iD:Y->Bool×V α
 |0=>(ah,[])
 |i+1=>if(!(iD i).1&&lt (E l i d))=ae then(ae,(iD i).2++[x]++[E l i d])else((iD i).1,(iD i).2++[E l i d])
def TB(i:Y):iD d lt x l (i+1)=if(!(iD d lt x l i).1&&lt (E l i d))=ae then(ae,(iD d lt x l i).2++[x]++[E l i d])else((iD d lt x l i).1,(iD d lt x l i).2++[E l i d]):=rfl
def qW:V α:=if(iD d lt x l<|Z l).1=ae then(iD d lt x l<|Z l).2 else(iD d lt x l<|Z l).2++[x]
def TC:∀i,(iD d lt x l i).2.length=i+(if(iD d lt x l i).1=ae then 1 else 0)
 |0=>rfl
 |i+1=>by
  have:=TC i;rw[iD];cases h:(iD d lt x l i).1
  .rw[h]at this;simp only[Cn,Bool.true_and];split
   .simp at this⊢;omega
   .simp[h]at this⊢;omega
  .rw[h]at this;simp only[L8,Bool.false_and,hY,bL];simp[h]at this⊢;omega
def ac8:∀i,i<=Z l->(iD d lt x l i).2.Perm (if(iD d lt x l i).1=ae then x::h i l else h i l)
 |0,_=>by rw[iD];simp
 |i+1,g=>by
  have a:=ac8 i O;have f:h (i+1) l=h i l++[E l i d]:=by rw[q6,aM,cK O];rfl
  rw[iD,f];cases e:(iD d lt x l i).1
  .rw[e]at a;simp only[Cn,Bool.true_and];simp only[hY,bL]at a;split
   .simp only[b7];refine(List.Perm.append_right _<|a.append_right [x]).trans ?_;rw[lD];exact(List.perm_append_comm_assoc _ _ _)
   .simp only[e,hY,bL];exact a.append_right _
  .rw[e]at a;simp only[L8,Bool.false_and,hY,bL];simp only[b7]at a;simp only[e,b7];exact a.append_right _
def ac9:(qW d lt x l).Perm (x::l):=by
 have h:=ac8 d lt x l (Z l)<|aW _;unfold qW;rw[fR]at h;split
 .rename_i e;rwa[e]at h
 .rename_i e;rw[Bool.not_eq_true]at e;rw[e]at h;simp only[hY,bL]at h;exact(h.append_right [x]).trans aok
end
def aol(l:V (V G×G))(x:V G×G)(hl:Z l<=1000)(F:Z x.1<=1000)(H:∀m∈l,Z m.1<=1000):r z 208 [N MT l,.a<|av MT x] (N MT<|qW ([],0) (λm=>decide<|qT x.1 m.1<0) x l):=by
 refine aJ Tryz.func208 ?_;have p:=TC ([],0) (λm=>decide<|qT x.1 m.1<0) x l;have C:=TB ([],0) (λm=>decide<|qT x.1 m.1<0) x l;generalize u:iD ([],0) (λm=>decide<|qT x.1 m.1<0) x l=T at*;refine I J<|R<|fM MT [] J J (j J<|I J<|M<|I J ?_);refine ay<|bf (α:=Y) (λi=>⟨[(0,N MT l),(3,.c<|.P 0 0),(5,.c<|.X 1000000),(6,cB (T i).1),(7,y i)],[(0,.box 178 0<|av MT x),(1000000,.vec 178 MT (T i).2)],4,[]⟩) (λi=>i<=Z l) (λi=>Z l-i) 0 (a8 _) (by rw[<-u];exact(wk (bJ J) ⟨bE J J,bR J,A⟩)) ?_;intro i b;have q:=p i;have K:(T i).2.length<=1001:=by split at q<;>omega
 refine M<|I J<|c J (λh1=>?_)<|λh1=>?_
 .have h1:i<Z l:=by have h1:(i:G)<(Z l:G):=aT h1;omega
  have L:af ((i:G))=i:=b6 i;have v:(E l (af<|(i:G))<|ET.dA MT)=E l i ([],0):=a6 (λQ=>E l Q ([],0)) L;have U:=H (E l i ([],0)) Nk;have B:=aoj x.1 (E l i ([],0)).1 F U;have f:=C i;have s:=p<|i+1;rw[<-v]at*;obtain⟨n,g⟩:∃n,n=if(!(T i).1&&decide (qT x.1 (E l (af<|(i:G))<|ET.dA MT).1<0))=ae then(T i).2++[x]else(T i).2:=⟨_,J⟩
  have t:(T<|i+1).2=n++[E l (af<|(i:G)) (ET.dA MT)]:=by rw[f,g];split<;>rfl
  have W:Z n<=1001:=by rw[t,ix,rG]at s;split at s<;>omega
  refine aD<|M<|ay ?_;refine m0 ⟨[(0,N MT l),(3,.c<|.P 0 0),(5,.c<|.X 1000000),(6,cB (T<|i+1).1),(7,y i)],[(0,.box 178 0<|av MT x),(1000000,.vec 178 MT n)],8,[]⟩ ?_<|λo=>R<|rg 17 J J (λd=>?_)<|λd=>?_
  .refine cA (rl MT [_] J J (ra J J J J J J J J J ?_ ?_<|j J ?_) (hp:=aF))
   .show(_+1+(_+1)/4+192)*32<=_;omega
   .show(_+1)*2<=_;omega
   refine bH<|rt J<|aS (i+1) h1 wR<|Wk.trans (wk (st':=⟨[(0,N MT l),(3,.c<|.P 0 0),(5,.c<|.X 8006000),(6,cB (T<|i+1).1),(7,y ((i+1:Y):G))],[(0,.box 178 0<|av MT x),(8006000,.vec 178 MT (T<|i+1).2)],16,[]⟩) (bJ J) ⟨bR J,bE J ?_,A⟩)<|Wk.trans (gw 1000000 8006000 J J J) aU;rw[t]
  .have d:(T i).1=ah:=by
    cases e:(T i).1
    .rfl
    .rw[e]at d;cases d
   refine fX J J J J J B (j J<|c J (λk=>?_)<|λk=>?_) (hp:=aF)
   .have k:decide (qT x.1 (E l (af<|(i:G))<|ET.dA MT).1<0)=ae:=k;rw[d,k]at g;rw[d,k]at f;have g:n=(T i).2++[x]:=g;refine R (rl MT [x] J J (ra J J J J J J J J J ?_ ?_<|j J ?_))
    .show(_+1+(_+1)/4+192)*32<=_;omega
    .show(_+1)*2<=_;omega
    refine rt J<|eZ o<|Wk.trans (wk (st':=⟨[(0,N MT l),(3,.c<|.P 0 0),(5,.c<|.X 6003000),(6,cB (T<|i+1).1),(7,y i)],[(0,.box 178 0<|av MT x),(6003000,.vec 178 MT n)],8,[]⟩) ⟨sR J,sR J,sR J,sE J ?_,sR J,A⟩ ⟨bR J,bE J ?_,A⟩)<|Wk.trans (gw 1000000 6003000 J J J) aU
    .rw[f];rfl
    .rw[g]
   .have k:decide (qT x.1 (E l (af<|(i:G))<|ET.dA MT).1<0)=ah:=k;rw[d,k]at g;rw[d,k]at f;have g:n=(T i).2:=g;refine c7 (eZ o<|wk ⟨sR J,sR J,sR J,sE J ?_,sR J,A⟩ ⟨bR J,bE J ?_,A⟩)
    .rw[f,d];rfl
    .rw[g]
  .have d:(T i).1=ae:=by
    cases e:(T i).1
    .rw[e]at d;cases d
    .rfl
   rw[d]at g;rw[d]at f;have g:n=(T i).2:=g;refine j J<|c J (λk=>by cases k)<|λk=>c7<|eZ o<|wk ⟨sR J,sR J,sR J,sE J ?_,sR J,A⟩ ⟨bR J,bE J ?_,A⟩
   .rw[f,d];rfl
   .rw[g]
 .have h1:i=Z l:=by have h1:¬(i:G)<(Z l:G):=a4 h1;omega
  subst h1;refine bh<|aI<|M<|I J<|c J (λd=>?_)<|λd=>?_
  .have d:(T<|Z l).1=ah:=by
    cases e:(T<|Z l).1
    .rfl
    .rw[e]at d;cases d
   refine cA<|rl MT [x] J J (ra J J J J J J J J J ?_ ?_<|j J ?_)
   .show(_+1+(_+1)/4+192)*32<=_;omega
   .show(_+1)*2<=_;omega
   refine aI<|c8 6003000 J J J<|I J<|bO J ?_;unfold qW;rw[u,d];rfl
  .have d:(T<|Z l).1=ae:=by
    cases e:(T<|Z l).1
    .rw[e]at d;cases d
    .rfl
   refine aD<|c8 1000000 J J J<|I J<|bO J ?_;unfold qW;rw[u,d];rfl
section
variable{p:Y}(H:bp p)
include H in
def TD:∀(Q:Y)(f:V G),Z f<Q->Z f<=200->Mon p f->∃U,qV p f U/\r z 206 [N aq f,cU p] (N aq U)
 |0,_,h,_,_=>by omega
 |Q+1,f,hN,lf,d=>by
  have Ib:=H.hp.1;have u:=H.le;by_cases b:Z f<=1
  .refine⟨f,qV.one H d b,?_⟩;refine Cf ac' J J J J J T ?_;refine I J<|M<|I J<|c J (λh=>I J<|bI<|cG<|g7 cj J<|bm.refl _)<|λh=>?_;exfalso;have h:¬(Z f:G)<=1:=a4 h;omega
  have k:=acY f p O O u d.c.1;have i:bs p (aK<|jm p f):=kg H.pos<|H3 O f;have hDl:Z (aK<|jm p f)<=200:=by have:=oc<|jm p f;rw[H2]at this;omega
  have v:(fx (aK<|jm p f):Fx p)=bt (fx f):=by rw[DD,Ta]
  have l:aK (jm p f)=[]->bt (fx f:Fx p)=0:=anp H;generalize aK (jm p f)=D at*;by_cases q:D=[]
  .obtain⟨e1,e2,e3,e4⟩:=ab6 H d O<|l q;obtain⟨U,r1,r2⟩:=TD Q _ O O e1;refine⟨U,r1.root H d O<|l q,?_⟩;have x:Z (lP p f<|jc p<|Z f)=jc p (Z f):=by simp[lP]
   have hk:∀a,a<jc p (Z f)↔a*p<Z f:=λa=>by unfold jc;rw[<-Nat.add_one_le_iff,Nat.le_div_iff_mul_le O,Nl];omega
   have B:∀a,a<jc p (Z f)->E (lP p f<|jc p<|Z f) a 0=E f (a*p) 0:=λa hj=>by unfold lP;rw[aM,iV,kK hj];rfl
   rw[x]at e3 e4;generalize lP p f (jc p<|Z f)=L at*;generalize jc p (Z f)=m at*;subst q;refine Cf ac' J J J J J T ?_;refine I J<|M<|I J<|c J (λh=>?_)<|λh=>c7<|aI ?_
   .exfalso;have h:(Z f:G)<=1:=aT h;omega
   refine R<|rc J J k<|j J<|M<|I J<|c J (λ_=>?_)<|λh=>eV;refine R<|fM aq [] J J (j J<|M<|I J ?_);refine ay<|bf (α:=Y) (λa=>⟨[(0,N aq f),(1,cU p),(6,.c<|.X 4000000),(7,y ((a*p:Y):G))],[(4000000,.vec 150 aq<|List.take a L)],6,[]⟩) (λa=>a<=m) (λa=>m-a) 0 (a8 _) (by rw[rB];exact aU) ?_;intro a hj;have hl:(List.take a L).length=a:=bV;refine M<|I J<|c J (λh=>?_)<|λh=>?_
   .have h:a*p<Z f:=by have h:((a*p:Y):G)<(Z f:G):=aT h;omega
    have C:=(hk a).2 h;have ei:af (((a*p:Y):G))=a*p:=b6 _;refine c7<|aI<|M<|ay<|cA<|rl aq [_] J J (ra J J J J J J J J J ?_ ?_<|j J ?_) (hp:=aF)
    .show(_+1+(_+1)/4+192)*8<=_;omega
    .show(_+1)*1<=_;omega
    refine eL<|aI<|rt J (hp:=aF)<|aS (a+1) C (O:m-(a+1)<m-a)<|Wk.trans (wk (st':=⟨[(0,N aq f),(1,cU p),(6,.c<|.X 7006000),(7,y (((a+1)*p:Y):G))],[(7006000,.vec 150 aq<|List.take (a+1) L)],16,[]⟩) ⟨sR J,sR J,sR J,sE J ?_,A⟩ ⟨bE J ?_,A⟩)<|Wk.trans (gw 4000000 7006000 J J J) aU
    .refine iz (show((a*p:Y):G)+(p:G)=(((a+1)*p:Y):G)from ?_);rw[Nl];omega
    .refine a6 (aE.vec 150 aq) ?_;rw[qy _ a O,B a C,ei]
   .have h:¬a*p<Z f:=by have h:¬((a*p:Y):G)<(Z f:G):=a4 h;omega
    have w:a=m:=by have:=mt (hk a).1 h;omega
    subst w;rw[iO O];exact mU<|qe<|nv<|mV<|aI<|c8 4000000 J J J<|R<|rc J J r2<|j J<|bI<|cG<|g7 cj J<|bm.refl _
  .obtain⟨s,m2,m3,_⟩:=yJ H d.c i d.ne;obtain⟨q1,q2,q3,q4⟩:=sc H d s m2;have y7:Z (fH p f D)<Z f:=by
    have P8:(fx D:Fx p)≠0:=λe=>q<|tx i (qA H.pos)<|e.trans jL.symm
    have b:=iK H m3 P8;have h3:=Lo H (fx f:Fx p);rw[<-v,cO d.c]at h3;rw[cO s.c]at b;omega
   obtain⟨S,t,s2⟩:=TD Q (fH p f D) O O s;obtain⟨_,t2⟩:=qV.step H d O i v q J t J;have pq:=t.len;refine⟨_,t2,?_⟩;have F:=Di p H.hp H.le f D O O d.c i;have K:=yp p H.hp H.le f (fH p f D) O O d.c s.c s.ne;rw[uF q1.c.2]at K;generalize fH p f D=g at*;generalize (aL f g p).1=P at*;obtain⟨W,n2,n3,_⟩:=yJ H q1.c t.aH.c q1.ne;obtain⟨u1,u2,u3,u4⟩:=sc H t.aH W n3;have o:=Di p H.hp H.le P S O O q1.c t.aH.c;have n:=yp p H.hp H.le S (fH p P S) O O t.aH.c W.c W.ne;rw[uF u1.c.2]at n;generalize fH p P S=df at*;have pc:=W.pos;have pg:=s.pos;have qi:=te P (aL S df p).1 p O O O O q1.c.1 u1.c.1;refine Cf ac' J J J J J T ?_;refine I J<|M<|I J<|c J (λh=>?_)<|λh=>c7<|aI ?_
   .exfalso;have h:(Z f:G)<=1:=aT h;omega
   refine R<|rc J J k<|j J<|M<|I J<|c J (λh=>?_)<|λ_=>c7<|aI ?_
   .exfalso;have h:(Z D:G)=0:=eq_of_beq h;exact q<|fE O
   exact R<|rc J J F<|j J<|R<|rc J J K<|j J<|R<|rc J J s2<|j J<|R<|rc J J o<|rc J J n<|rc J J qi<|j J<|bI<|g7 cj J<|bm.refl _
def ada(m:Y)(g:V G):∀(a:V (V G))(x:V G×V (V G×G)),gn p m (a++[g]) x=((pull p g ((gn p m a x).1.length+1) (gn p m a x).1 0).1,(gn p m a x).2++[(g,(((pull p g ((gn p m a x).1.length+1) (gn p m a x).1 0).2:Y):G)*(m:G))])
 |[],x=>rfl
 |d::a,x=>by rw[lY,gn,ada m g a,gn]
noncomputable def iN(p:Y)(a:V G)(l:V (V G)):Y->V G×V (V G×G)
 |0=>(a,[])
 |i+1=>((pull p (l.getD i []) ((iN p a l i).1.length+1) (iN p a l i).1 0).1,qW ([],0) (λd=>decide<|qT (l.getD i []) d.1<0) (l.getD i [],(((pull p (l.getD i []) ((iN p a l i).1.length+1) (iN p a l i).1 0).2:Y):G)) (iN p a l i).2)
def TF(a:V G)(l:V (V G)):∀i,i<=Z l->(iN p a l i).1=(gn p 1 (h i l) (a,[])).1/\(iN p a l i).2.Perm (gn p 1 (h i l) (a,[])).2
 |0,_=>⟨J,List.Perm.refl _⟩
 |i+1,g=>by
  let ⟨f,h2⟩:=TF a l i O;have d:h (i+1) l=h i l++[l.getD i []]:=by rw[q6,aM,cK O];rfl
  rw[d,ada,iN,f];refine⟨J,(ac9 _ _ _ _).trans ?_⟩;have e:∀z:G,z*((1:Y):G)=z:=λz=>mm z
  rw[e];exact(List.Perm.cons _ h2).trans<|aok (l₁:=[_])
def adb(m:Y):∀(e:V (V G))(x:V G×V (V G×G)),∀d∈(gn p m e x).2,d∈x.2\/d.1∈e
 |[],x,d,f=> .inl f
 |g::e,x,d,f=>by
  rw[gn]at f;rcases adb m e _ d f with a|a
  .rcases aY.1 a with a|a
   .exact .inl a
   .rw[iU.1 a];exact .inr ax
  .exact .inr (by simp[a])
def Bl.take{f:V G}{a:V (V G)}(d:Bl p f a)(i:Y):Bl p f (h i a):=
 ⟨λg e=>d.ok g<|BD e,d.ds.sublist (List.take_sublist i a)⟩
include H in
def aom(pm:p<=2147483647){a:V G}(la:Z a<=200)(ha:∀i,0<=E a i 0)(h0:aK (md p a)≠[])(hd:∀d,2*d<Z (aK<|md p a)->2*p^d<=18446744073709551616):∃L,Bm p (fx<|kL p<|aK<|md p a) L/\r z 175 [N aq a,cU p] (.t [(ah,[.S MT L]),(ah,[.I .i64 0])]):=by
 have Ib:=H.hp.1;have D:=wB a p O O O ha;have K:bs p (aK<|md p a):=kg H.pos<|Aw H.pos a;have hal:Z (aK<|md p a)<=200:=by have:=oc<|md p a;rw[wA]at this;omega
 have Fq:=XW p H.hp H.le (aK<|md p a) O K;let ⟨m1,m2,_⟩:=LY H K h0;generalize aK (md p a)=pO at*;generalize kL p pO=f at*;let ⟨x,r1,r2⟩:=TD H _ f (dJ _) O m1;have GG:=r1.len;have hsq:=aoi H r1.aH r1.kS O<|λd hd'=>hd d O;have m:=ac7 H (F:=x) (λd hd'=>hd d O) (Z x) ⟨x,[0,1],1,[]⟩ (np.start H r1.aH r1.kS O) (O:Z x<1+Z x);generalize xk H (Z x) ⟨x,[0,1],1,[]⟩=l at*;have P:=an8 H m1 r1 m;have hpt:=acS H r1 m;let ⟨f1,f2⟩:=TF (p:=p) f l (Z l)<|aW _;rw[fR]at f1 f2;refine⟨(iN p f l<|Z l).2,P.perm f2,?_⟩;have Xw:Z l<=200:=by
  let ⟨h3,h4⟩:=S8 H (l:=l) λg Q=>⟨(m.parts g Q).1,(m.parts g Q).2.1⟩
  rw[m.prod,cO r1.aH.c]at h4;omega
 have hI:=λi=>Td H (List.take i l) f [] (tK.start m1) (hpt.take i)
 refine aJ Tryz.func175 ?_;refine I J<|M<|bw J J (XL p H.hp pm) J<|c J (λh=>eV)<|λ_=>aD ?_;refine R<|rc J J D<|rc J J Fq<|j J<|M<|I J<|c J (λh=>?_)<|λ_=>aD ?_
 .exfalso;have h:(Z f:G)=0:=eq_of_beq h;have:=m1.pos;omega
 refine R<|rc J J r2<|rc J J hsq<|j J<|R<|rl MT [] J J (j J<|M<|I J ?_);refine ay<|bf (α:=Y) (λi=>⟨[(1,cU p),(6,N aq (iN p f l i).1),(7,N (.sl aq) l),(8,N MT (iN p f l i).2),(9,y i)],[],8,[]⟩) (λi=>i<=Z l) (λi=>Z l-i) 0 (a8 _) aU ?_;intro i hi;let ⟨k1,k2⟩:=TF (p:=p) f l i hi;let ⟨i1,i2,_⟩:=hI i;rw[<-k1]at i1 i2;let ⟨i3,_,_⟩:=i1.bounds H;have i3:(gn p 1 (List.take i l) (f,[])).2.length+1<=Z f:=by rwa[cO m1.c]at i3
 have hq:=k2.length_eq;have i2:(iN p f l i).1.length<=Z f:=i2;refine M<|I J<|c J (λh=>?_)<|λh=>?_
 .have h:i<Z l:=by have h:(i:G)<(Z l:G):=aT h;omega
  have ei:af ((i:G))=i:=b6 i;have z2:(E l (af<|(i:G))<|ET.dA<|.sl aq)=l.getD i []:=a6 (λfV=>l.getD fV []) ei;have u:l.getD i []∈l:=Ru;let ⟨B,g2,_⟩:=m.parts _ u;have U:∀g∈l,Z g<=200:=λg Q=>by have h3:=iK H (M4 p Q) (by rw[m.prod];exact r1.aH.jM H);rw[m.prod,cO r1.aH.c,cO (m.parts g Q).1.c]at h3;omega
  have y7:=U _ u;have W:∀o∈(iN p f l i).2,Z o.1<=1000:=λo hy=>by
   rcases adb 1 (List.take i l) (f,[]) o (k2.mem_iff.1 hy)with e|e
   .cases e
   .have:=U _<|BD e;omega
  have hF1:(iN p f l<|i+1).1=(pull p (l.getD i []) ((iN p f l i).1.length+1) (iN p f l i).1 0).1:=rfl;have hF2:(iN p f l<|i+1).2=qW ([],0) (λo=>decide<|qT (l.getD i []) o.1<0) (l.getD i [],(((pull p (l.getD i []) ((iN p f l i).1.length+1) (iN p f l i).1 0).2:Y):G)) (iN p f l i).2:=rfl;have q:=λn:Y=>aol (iN p f l i).2 (l.getD i [],(n:G)) O (by show Z (l.getD i [])<=_;omega) W
  have hm:=i1.aH;generalize hT:pull p (l.getD i []) ((iN p f l i).1.length+1) (iN p f l i).1 0=T at*;rw[<-z2]at*;refine aD<|M<|ay<|I J<|M ?_;refine ay<|bf (α:=Y×V G×Y) (λo=>⟨[(1,cU p),(6,N aq o.2.1),(7,N (.sl aq) l),(8,N MT (iN p f l i).2),(9,y i),(10,y o.2.2)],[],10,[]⟩) (λo=>pull p (E l (af<|(i:G))<|ET.dA<|.sl aq) o.1 o.2.1 o.2.2=T/\Z o.2.1<o.1/\Mon p o.2.1/\o.2.2+Z o.2.1<=200) (λo=>o.1) ((iN p f l i).1.length+1,(iN p f l i).1,0) ⟨hT,dJ _,hm,by show 0+(iN p f l i).1.length<=_;omega⟩ aU ?_;rintro⟨k,v,n⟩ ⟨C,b2,X,b4⟩;simp only at C b2 X b4;obtain⟨k,rfl⟩:∃k',k=k'+1:=⟨k-1,O⟩;rw[pull]at C;have Sr:=rN p H.hp H.le v _ O O X.c B.c B.ne;refine M<|R<|rc J J Sr (j J<|c J (λs=>?_)<|λs=>?_) (hp:=aF)
  .have s:(aL v (E l (af<|(i:G))<|ET.dA<|.sl aq) p).2=[]:=fE (by have:=eq_of_beq s;omega);rw[ao s]at C;have Su:=(LW H X.c B.c B.ne).1 s;let ⟨q1,q2,q3,q4⟩:=sc H X B Su;have b:=yp p H.hp H.le v _ O O X.c B.c B.ne;rw[uF q1.c.2]at b;refine aD (ay<|R<|rc J J b (j J<|rt J (hp:=aF)<|eL<|aS (k,(aL v (E l (af<|(i:G))<|ET.dA<|.sl aq) p).1,n+1) ⟨C,?_,q1,?_⟩ (dJ k) aU) (hp:=aF))
   .show(aL v (E l (af<|(i:G))<|ET.dA<|.sl aq) p).1.length<k;omega
   .show n+1+(aL v (E l (af<|(i:G))<|ET.dA<|.sl aq) p).1.length<=200;omega
  .have s:(aL v (E l (af<|(i:G))<|ET.dA<|.sl aq) p).2≠[]:=λe=>by have s:¬((aL v (E l (af<|(i:G))<|ET.dA<|.sl aq) p).2.length:G)=0:=m5 s;rw[e]at s;exact s J
   rw[w s]at C;subst C;have q:=q n;rw[<-hF2]at q;refine bh<|aI ?_;refine cA<|rc J J q (j J<|bH<|rt J (hp:=aF)<|aS (i+1) h wR<|wk ⟨sR J,sE J ?_,sR J,sR J,sR J,A⟩ A) (hp:=aF);rw[hF1]
 .have h:i=Z l:=by have h:¬(i:G)<(Z l:G):=a4 h;omega
  subst h;exact bh<|aI<|I J<|cJ J
end
def kv(a d:V G):V G:=(List.range<|max (Z a)<|Z d).map λi=>E a i 0-E d i 0
def ade a d:Z (kv a d)=max (Z a) (Z d):=by simp[kv]
def Eh a d i:E (kv a d) i 0=E a i 0-E d i 0:=by
 by_cases h:i<max (Z a) (Z d)
 .unfold kv;rw[aM,iV,kK h];rfl
 .rw[eN _ (by rw[ade];omega),eN a O,eN d O];rfl
def adf a d u(p:u<=100000)(q:Z a<=1000)(s:Z d<=1000)(l:∀i,aG u (E a i 0))(m:∀i,aG u (E d i 0)):r z 257 [N .z a,N .z d] (N .z<|aK<|kv a d):=by
 refine aJ Tryz.func257 ?_;have t:=ade a d;have n:=Eh a d;generalize hM:max (Z a) (Z d)=M at*;have o:M<=1000:=O;generalize kv a d=L at*;refine I J<|R<|fM .z [] J J (j J<|jg<|I J ?_);refine ay<|bf (α:=Y) (λi=>⟨[(0,N .z a),(1,N .z d),(5,.c<|.X 1000000),(6,y i)],[(1000000,.vec 42 .z<|h i L)],3,[]⟩) (λi=>i<=M) (λi=>M-i) 0 (a8 _) aU ?_;intro i v;have x:(h i L).length=i:=bV;by_cases g:i<M
 .refine m0 ⟨[(0,N .z a),(1,N .z d),(5,.c<|.X 1000000),(6,y i)],[(1000000,.vec 42 .z<|h i L)],4,[]⟩ ?_ (λf=>R<|rg 12 J J (λe=>j J<|c J (λ_=>c7<|eZ f aU)<|λh2=>oZ)<|λe=>j J<|c J (λ_=>c7<|eZ f aU)<|λh2=>?_)
  .refine jg<|ay<|cA ?_;refine rc J J (Ga a i)<|rc J J (Ga d i)<|rc J J (PZ (E a i 0) (E d i 0) ((l i).sm O)<|(m i).sm O) ?_;refine rl .z [E a i 0-E d i 0] J J (ra J J J J J J J J J ?_ ?_<|j J ?_)
   .show(_+1+(_+1)/4+192)*32<=_;omega
   .show(_+1)*2<=_;omega
   refine bH<|rt J<|aS (i+1) g wc<|Wk.trans (wk (st':=⟨[(0,N .z a),(1,N .z d),(5,.c<|.X 4009000),(6,y ((i+1:Y):G))],[(4009000,.vec 42 .z<|h (i+1) L)],8,[]⟩) (bJ J) ⟨bE J ?_,A⟩)<|Wk.trans (gw 1000000 4009000 J J J) aU;rw[qy _ i O,n i]
  .exfalso;have e:¬(i:G)<(Z a:G):=a4 e;have h2:¬(i:G)<(Z d:G):=a4 h2;omega
 .have k:i=M:=by omega
  subst k;rw[iO O];refine jg<|R<|rg 12 J J (λe=>?_)<|λe=>?_
  .exfalso;have e:(i:G)<(Z a:G):=aT e;omega
  .refine j J (c J (λh2=>?_)<|λh2=>?_)
   .exfalso;have h2:(i:G)<(Z d:G):=aT h2;omega
   .exact bh<|aI<|c8 1000000 J J J<|bw J J (Kt _) J<|cJ J
def jC(p:G)(l:V (V G)):Y->V G
 |0=>[1]
 |i+1=>cH (jC p l i) (l.getD i []) p
section
variable{p:Y}(H:bp p)
include H
def adg:bs p [1]:=⟨Dh O AW,.inr (T:(1:G)≠0)⟩
def aos:Mon p [1]:=⟨adg H,ax,J⟩
def Ic{l:V (V G)}(e:∀g∈l,Mon p g/\1<=Z g):∀i,i<=Z l->Mon p (jC p l i)/\(fx (jC p l i):Fx p)=gY p (h i l)/\Z (jC p l i)=1+dn (h i l)
 |0,_=>⟨aos H,by rw[jC,AT];rfl,J⟩
 |i+1,n=>by
  let ⟨f,h2,o⟩:=Ic e i O;have a:l.getD i []∈l:=by rw[aM,cK O];exact si _
  let ⟨k,g2⟩:=e _ a;let ⟨t1,t2⟩:=Tw H f k;have d:h (i+1) l=h i l++[l.getD i []]:=by rw[q6,aM,cK O];rfl
  have m:dn (h i l++[l.getD i []])=dn (h i l)+(Z (l.getD i [])-1):=by rw[M5];rfl
  rw[d,jC];refine⟨t1,?_,?_⟩
  .rw[uY,h2,HZ,gY,gY,mul_one]
  .rw[m];omega
theorem adh(l:V (V G))(i:Y):dn (h i l)<=dn l:=by
 conv=>rhs;rw[<-q8 i l]
 rw[M5];omega
def aot{l:V (V G)}(e:∀g∈l,Mon p g/\1<=Z g)(v:dn l<=900)(x:Z l<=1000):r z 215 [N (.sl aq) l,cU p] (N aq<|jC p l<|Z l):=by
 refine aJ Tryz.func215 ?_;have o:=H.hp.1;have k:=H.le;refine I J<|R<|rl aq [1] J J (j J<|M<|I J ?_);refine ay<|bf (α:=Y) (λi=>⟨[(0,N (.sl aq) l),(1,cU p),(5,N aq<|jC p l i),(6,y i)],[],4,[]⟩) (λi=>i<=Z l) (λi=>Z l-i) 0 (a8 _) aU ?_;intro i q;refine M<|I J<|c J (λh1=>?_)<|λh1=>?_
 .have h1:i<Z l:=by have h1:(i:G)<(Z l:G):=aT h1;omega
  have s:af ((i:G))=i:=b6 i;have f:(E l (af<|(i:G))<|ET.dA<|.sl aq)=l.getD i []:=a6 (λt=>l.getD t []) s;have d:l.getD i []∈l:=Nk;let ⟨t1,_,t3⟩:=Ic H e i q;have B:=adh H l i;have C:=adh H l<|i+1;let ⟨_,_,m⟩:=Ic H e (i+1) h1;let ⟨n,g2⟩:=e _ d;let ⟨_,t7⟩:=Tw H t1 n;have a:=te (jC p l i) (l.getD i []) p O (by have m:Z (cH (jC p l i) (l.getD i []) p)=_:=m;omega) O O t1.c.1 n.c.1;have u:jC p l (i+1)=cH (jC p l i) (l.getD i []) p:=rfl;rw[<-u]at a;rw[<-f]at a;exact aD<|M<|ay<|cA<|rc J J a (j J<|bH<|rt J (hp:=aF)<|aS (i+1) h1 wR aU) (hp:=aF)
 .have h1:i=Z l:=by have h1:¬(i:G)<(Z l:G):=a4 h1;omega
  subst h1;exact bh<|aI<|I J<|cJ J
end
section
variable{p:Y}
structure tM where
 a:V G
 b:V G
 t:V G
 n:V G
def tM.q(p:Y)(x:tM):V G:=aK (aL x.a x.b p).1
def tM.next(p:Y)(x:tM):tM:=⟨x.b,(aL x.a x.b p).2,x.n,aK<|fG x.t (cH (x.q p) x.n p) p⟩
def Bq(p:Y):Y->tM->tM
 |0,x=>x
 |k+1,x=>if x.b=[]then x else Bq p k (x.next p)
structure Br(p:Y)(g h:V G)(C:Y)(x:tM):Prop where
 ca:bs p x.a
 cb:bs p x.b
 ct:bs p x.t
 cn:bs p x.n
 a0:x.a≠[]
 l1:x.n.length+x.a.length<=C
 l2:x.t.length+x.b.length<=C
 d1:(fx g:Fx p)∣fx x.a-fx x.t*fx h
 d2:(fx g:Fx p)∣fx x.b-fx x.n*fx h
 co:Co (fx x.a:Fx p) (fx x.b)
variable(H:bp p)
include H
def aou{a d:V G}(f:bs p a)(g:bs p d)(e:d≠[]):(fx a:Fx p)=fx (aL a d p).1*fx d+fx (aL a d p).2:=
 mk_eq.2 (lq H.hp H.le f.1 g e).1
def Br.next{g f:V G}{C:Y}{x:tM}(d:Br p g f C x)(i:x.b≠[]):Br p g f C (x.next p)/\(x.next p).b.length<Z x.b:=by
 let ⟨_,r,w,y,v,F⟩:=lq H.hp H.le d.ca.1 d.cb i;have s:=aou H d.ca d.cb i;have z:=d.l1;have E:=d.l2;have J:=cv.2 i;have l:(fx (x.q p):Fx p)=fx (aL x.a x.b p).1:=DD _;have K:Z (x.q p)<=Z x.a-(Z x.b-1):=by have:=oc (aL x.a x.b p).1;rw[F]at this;exact this
 have m:=oc<|fG x.t (cH (x.q p) x.n p) p;rw[K0]at m;have L:Z (cH (x.q p) x.n p)+Z x.b<=C:=by
  by_cases e:x.q p=[]\/x.n=[]
  .unfold cH;rw[ao e,rz];omega
  .have P:x.q p≠[]:=λk=>e (.inl k)
   have Q:x.n≠[]:=λk=>e<|.inr k
   have:=uG (x.q p) x.n p;have M:=cv.2 P;have N:=cv.2 Q;omega
 have o:(fx (x.next p).n:Fx p)=fx x.t-fx (aL x.a x.b p).1*fx x.n:=by show(fx (aK<|fG x.t (cH (x.q p) x.n p) p):Fx p)=_;rw[RF,uY,l]
 have W:(fx (aL x.a x.b p).2:Fx p)=fx x.a-fx (aL x.a x.b p).1*fx x.b:=Dp (by rw[add_comm,<-s]);refine⟨⟨d.cb,v d.ca,d.cn,kg H.pos<|Ax H.pos _ _,i,?_,?_,d.d2,?_,?_⟩,by show(aL x.a x.b p).2.length<_;omega⟩
 .show Z (aK _)+Z x.b<=C;omega
 .show Z x.n+(aL x.a x.b p).2.length<=C;by_cases c:Z x.b<=Z x.a
  .omega
  .have:(aL x.a x.b p).2=x.a:=by unfold aL;rw[ao O]
   rw[this];omega
 .show(fx g:Fx p)∣fx (aL x.a x.b p).2-fx (x.next p).n*fx f;rw[W,o,sub_mul];have X:(fx g:Fx p)∣fx (aL x.a x.b p).1*fx x.b-fx (aL x.a x.b p).1*(fx x.n*fx f):=qD (o9 _ _) d.d2;have j:=dvd_sub d.d1 X;have e:∀A B C D:Fx p,A-B-(C-D)=A-C-(B-D):=λA B C D=>by rw[sub_def (A-B),neg_sub,sub_def<|A-C,neg_sub,sub_def A,sub_def D,sub_def A,sub_def D];ac_rfl
  rw[e]at j;rwa[mul_assoc (fx (aL x.a x.b p).1)]
 .let ⟨U,u,e⟩:=d.co;refine⟨U*fx (aL x.a x.b p).1+u,U,?_⟩;show(U*fx (aL x.a x.b p).1+u)*fx x.b+U*fx (aL x.a x.b p).2=1;rw[<-e,s,add_mul,mul_add];ac_rfl
def adi{g a:V G}{C:Y}:∀(k:Y)(x:tM),Br p g a C x->Z x.b<k->Br p g a C (Bq p k x)/\(Bq p k x).b=[]
 |0,x,_,f=>by omega
 |k+1,x,d,f=>by
  rw[Bq];split
  .rename_i e;exact⟨d,e⟩
  .rename_i e;let ⟨i,l⟩:=d.next H e;exact adi k _ i O
def aov{g d:V G}(o:Mon p g)(hh:Mon p d)(g2:2<=Z g)(lg:Z g<=100)(lh:d.length<=100)(Q:Co (fx g:Fx p) (fx d)):∃t,bs p t/\Z t<Z g/\(fx g:Fx p)∣fx t*fx d-1/\r z 258 [N aq g,N aq d,cU p] (N aq t):=by
 have Ib:=H.hp.1;have adk:=H.le;have I0:Br p g d 101 ⟨g,d,[],[1]⟩:=⟨o.c,hh.c,qA H.pos,adg H,o.ne,by show 1+Z g<=_;omega,by show 0+d.length<=_;omega,by rw[jL,zero_mul,sub_zero];exact dvd_refl _,by rw[AT,one_mul,sub_self];exact dvd_zero _,Q⟩;let ⟨E,e0⟩:=adi H (d.length+1) ⟨g,d,[],[1]⟩ I0<|dJ _;generalize hX:Bq p (d.length+1) ⟨g,d,[],[1]⟩=X at*;have hu:sz (fx X.a:Fx p)=1:=by let ⟨U,Bs,e⟩:=E.co;rw[e0,jL,mul_zero,add_zero]at e;exact wK H e
 rw[cO E.ca]at hu;obtain⟨f,P⟩:∃f,X.a=[f]:=by
  match hxa:X.a,hu with
  |[f],_=>exact⟨f,J⟩
 have m:0<=f/\f<p:=by have:=E.ca.1 0;rw[P]at this;exact this
 have u:f≠0:=by
  rcases E.ca.2 with e|e
  .exact absurd e E.a0
  .rw[P]at e;exact e
 have B:=Qr f p m u O O;have W:=Df H.hp H.le m.1 m.2 u;have A:((iB (af f) (af ((p:Y):G)):Y):G)<p:=by rw[XI _ _ (by rw[b6];omega) (by rw[b6];omega),b6];have:=fg (af f^(p-2)) (O:0<p);omega
 generalize iB (af f) (af ((p:Y):G))=v at*;have l2:=E.l2;have D:=te [(v:G)] X.t p ax O O O (Dh O A) E.ct.1;have C:=uG [(v:G)] X.t p;have S:=rN p H.hp H.le (cH [(v:G)] X.t p) g (by simp at C;omega) O (mr H.pos _ _) o.c o.ne;let ⟨r1,r2,r3⟩:=vn H (mr H.pos [(v:G)] X.t) o.c o.ne;refine⟨_,r1,r2,?_,?_⟩
 .rw[uY,RE]at r3;have k1:(fx g:Fx p)∣fx (aL (cH [(v:G)] X.t p) g p).2*fx d-K v*fx X.t*fx d:=qD r3<|o9 _ _;have k2:(fx g:Fx p)∣K v*fx X.a-K v*(fx X.t*fx d):=qD (o9 _ _) E.d1;rw[P,RE,<-eW,AS (a:=(v:G)*f) (b:=1) (by rw[et,W,H.one]),<-mul_assoc]at k2;exact og k1<|m9 k2
 refine aJ Tryz.func258 ?_;refine I J<|I J<|R<|rl aq [] J J (rl aq [1] J J (j J ?_));refine M<|ay<|bf (α:=Y×tM) (λy=>⟨[(0,N aq g),(1,N aq d),(2,cU p),(7,N aq y.2.a),(8,N aq y.2.b),(9,N aq y.2.t),(10,N aq y.2.n)],[],3,[]⟩) (λy=>Br p g d 101 y.2/\Z y.2.b<y.1/\Bq p y.1 y.2=X) (λy=>y.1) (d.length+1,⟨g,d,[],[1]⟩) ⟨I0,dJ _,hX⟩ aU ?_;rintro⟨k,x⟩ ⟨i,hk,s⟩;simp only at i hk s;obtain⟨k,rfl⟩:∃k',k=k'+1:=⟨k-1,O⟩;rw[Bq]at s;have l1:=i.l1;have l2:=i.l2;refine M<|I J<|c J (λl=>?_)<|λl=>?_
 .have l:0<Z x.b:=by have l:(Z x.b:G)>0:=aT l;omega
  have F:x.b≠[]:=cv.1 l;rw[w F]at s;let ⟨n1,n2⟩:=i.next H F;have L:=yp p H.hp H.le x.a x.b O O i.ca i.cb F;have T:aK (aL x.a x.b p).1=x.q p:=rfl;rw[T]at L;have hq:Z (x.q p)<=101:=by have:=oc (aL x.a x.b p).1;rw[(lq H.hp H.le i.ca.1 i.cb F).2.2.2.2.2]at this;show Z (aK _)<=_;omega
  have hqc:bs p (x.q p):=kg H.pos (lq H.hp H.le i.ca.1 i.cb F).2.1;have yi:=te (x.q p) x.n p O O O O hqc.1 i.cn.1;have hmc:=mr H.pos (x.q p) x.n;have C:=uG (x.q p) x.n p;have TG:=Gz x.t (cH (x.q p) x.n p) p O O O O i.ct.1 hmc.1;exact c7<|aI<|ay<|R<|rc J J L<|j J<|I J<|I J<|R<|rc J J yi<|rc J J TG<|j J<|I J<|rt J<|eL<|aS (k,x.next p) ⟨n1,(O:(x.next p).b.length<k),s⟩ (dJ k) aU
 .have l:x.b=[]:=fE (by have l:¬(Z x.b:G)>0:=a4 l;omega);rw[ao l]at s;subst s;refine bh<|aI ?_;show TR _ _ _ ⟨_,_,_,_⟩ _;simp only[P];exact bw J J B J<|R<|rl aq [(v:G)] J J (rc J J D<|rc J J S<|j J<|cJ J)
end
def mG(f a K:V G):V G:=aK<|kv f<|aK<|kJ a K
def jo(q:G)(p:Y)(f a K:V G):V G:=(mG f a K).map λx=>x/q%(p:G)
def oC(q:G)(p:Y)(f g t a K:V G):V G:=(aL (cH t (aK<|jo q p f a K) p) g p).2
def zd(q:G)(p:Y)(f g d t a K:V G):V G:=(aL (aK<|fG (aK<|jo q p f a K) (cH (oC q p f g t a K) d p) p) g p).1
def eD(p:Y)(f g d t:V G):Y->V G×V G
 |0=>(g,d)
 |a+1=>(lv (eD p f g d t a).1 ((p:G)^(a+1))<|oC ((p:G)^(a+1)) p f g t (eD p f g d t a).1 (eD p f g d t a).2,lv (eD p f g d t a).2 ((p:G)^(a+1))<|zd ((p:G)^(a+1)) p f g d t (eD p f g d t a).1 (eD p f g d t a).2)
structure Ie(p:Y)(f g h t:V G):Prop where
 H:bp p
 fm:aH f
 hg:Mon p g
 hh:Mon p h
 g2:2<=g.length
 h2:2<=h.length
 lg:g.length<=100
 lh:h.length<=100
 fl:f.length+1=g.length+h.length
 pr:(fx f:Fx p)=fx g*fx h
 tc:bs p t
 tl:t.length<g.length
 ht:(fx g:Fx p)∣fx t*fx h-1
section
variable{p:Y}{f g h t:V G}(A:Ie p f g h t)
include A
structure TwE(p:Y)(f g h t d K:V G)(a:Y):Prop where
 D:(mG f d K).length+2<=g.length+h.length
 e:bs p (aK<|jo ((p:G)^a) p f d K)
 el:(aK<|jo ((p:G)^a) p f d K).length+2<=g.length+h.length
 cg:bs p (oC ((p:G)^a) p f g t d K)
 lg:(oC ((p:G)^a) p f g t d K).length<g.length
 ck:bs p (zd ((p:G)^a) p f g h t d K)
 lk:(zd ((p:G)^a) p f g h t d K).length<h.length
 nx:tL p f g h (lv d ((p:G)^a)<|oC ((p:G)^a) p f g t d K) (lv K ((p:G)^a)<|zd ((p:G)^a) p f g h t d K) (a+1)
def Ie.step{a K:V G}{d:Y}(k:tL p f g h a K d)(j1:1<=d):TwE p f g h t a K d:=by
 have H:=A.H;have b:=H.hp.1;have c:(0:G)<(p:G)^d:=mI O;let ⟨w,hw⟩:=k.pr;have m:∀i,E (mG f a K) i 0=(p:G)^d*w i:=λi=>by
  have n:ps (mG f a K) i=ps f i-(ps a*ps K) i:=by show ps (aK<|kv f<|aK<|kJ a K) i=_;rw[o7,cy,Eh,<-cy,<-cy,o7,ZI _ _ k.Gm.1 k.Km.1]
  rw[cy]at n;rw[n,hw,PS.eI,PS.eW];omega
 have v:Z (mG f a K)+2<=Z g+h.length:=by
  have l:=k.Gm.tz.mul k.Km.tz;have o:=A.fm.tz;have P:∀i,Z f-1<=i->E (mG f a K) i 0=0:=λi Q=>by
   have n:E (mG f a K) i 0=ps f i-(ps a*ps K) i:=by rw[m i,hw,PS.eI,PS.eW];omega
   have U:Z a-1+(K.length-1)=Z f-1:=by have:=k.Gl;have:=k.Kl;have:=A.fl;have:=A.g2;have:=A.h2;omega
   rw[U]at l;rcases aoz Q with e|e
   .rw[n,o.z i e,l.z i e];rfl
   .rw[n,<-e,o.one,l.one];rfl
  have W:can (mG f a K):=Ev _;have:=A.fl;have:=A.g2;have:=A.h2;rcases W with e|e
  .rw[e];simp;omega
  .rcases oH (Z (mG f a K)-1) (Z f-1)with C|C
   .omega
   .exact absurd (P _ C) e
 have q:∀i,E (jo ((p:G)^d) p f a K) i 0=w i%p:=λi=>by show E ((mG f a K).map λx=>x/(p:G)^d%(p:G)) i 0=_;rw[getD_map (f:=λx=>x/(p:G)^d%(p:G)) TH,m i,TJ _ O]
 have B:rp p (jo ((p:G)^d) p f a K):=λi=>by rw[q i];exact⟨ij _ O,ik _ O⟩
 have s:bs p (aK<|jo ((p:G)^d) p f a K):=kg H.pos B;have u:Z (aK<|jo ((p:G)^d) p f a K)+2<=Z g+h.length:=by
  have r:=oc<|jo ((p:G)^d) p f a K;have y:Z (jo ((p:G)^d) p f a K)=Z (mG f a K):=by simp[jo]
  omega
 let ⟨a1,a2,F,L,X⟩:=an9 H A.hg A.hh A.g2 s u A.ht;exact⟨v,s,u,a2,a1,F,L,k.step H j1 w hw (Cg.of λi=>by rw[o7,cy,q i,lM]) a1 a2 L F X⟩
def Ie.all:∀a,tL p f g h (eD p f g h t a).1 (eD p f g h t a).2 (a+1)
 |0=>tL.start A.hg A.hh A.pr
 |a+1=>(A.step (Ie.all a)<|Nj<|a8 a).nx
theorem adl{a d:V G}(q:G)(i:aH a)(h:Z d<Z a):aK (wE a q d)=lv a q d:=by
 have e:wE a q d=lv a q d:=by unfold wE lv;rw[(O:max (Z a) (Z d)=Z a)]
 rw[e];exact(Tx q i h).trim
def aoA(hb:r z 258 [N aq g,N aq h,cU p] (N aq t)){k u m:Y}(k1:1<=k)(kk:k<=1000)(hu:∀i,aG u (E f i 0))(hw:aG m ((p:G)^k))(u9:u<=1000)(w9:m<=1000)(w1:1<=m):r z 214 [N .z f,N aq g,N aq h,cU p,y k] (.a [.S .z (eD p f g h t<|k-1).1,.S .z (eD p f g h t<|k-1).2]):=by
 have H:=A.H;have Ib:=H.hp.1;have adk:=H.le;have lg:=A.lg;have lh:=A.lh;have g2:=A.g2;have h2:=A.h2;have fl:=A.fl;obtain⟨k,rfl⟩:∃n,k=n+1:=⟨k-1,O⟩;rw[eh];have v:∀{q:V G},Mon p q->∀i,0<=E q i 0/\E q i 0<4294967296:=λ{q} hq i=>by have:=hq.c.1 i;omega
 have C:=X6 g O<|v A.hg;have F:=X6 h O<|v A.hh;rw[uF A.hg.c.2]at C;rw[uF A.hh.c.2]at F;refine aJ Tryz.func214 ?_;refine I J<|bw J J hb J<|R<|rc J J C<|rc J J F<|j J ?_;refine R<|rc J J (iI p O O) (j J<|M<|I J ?_) (hp:=aF);refine ay<|bf (α:=Y) (λi=>⟨[(0,N .z f),(1,N aq g),(2,N aq h),(3,cU p),(4,y ((k+1:Y):G)),(10,.c<|.P 0 0),(11,N aq t),(12,.c<|.P 2005000 0),(13,.c<|.P 3003000 0),(14,y ((i+1:Y):G))],[(0,.box 208 0 [.V (.slice none 0 0),.V<|.slice none 0 0]),(2005000,.box 208 0 [.S .z (eD p f g h t i).1,.S .z (eD p f g h t i).2]),(3003000,.box 42 0<|av .z<|(p:G)^(i+1))],5,[]⟩) (λi=>i<=k) (λi=>k-i) 0 (a8 _) (wk (bJ J) ⟨bE J J,bE J J,bE J ?_,TL⟩) ?_
 .rw[fb,n7,jR];rfl
 intro i hi;have B:=A.all i;let ⟨e1,e2,e3,e4,e5,e6,e7,e8⟩:=A.step B<|Nj<|a8 i;have hq:(0:G)<(p:G)^(i+1):=mI O;have Kj:(p:G)^(i+1)<=(p:G)^(k+1):=by rw[<-s7,<-s7];exact LN.2<|fh O O
 have o:aG m ((p:G)^(i+1)):=by unfold aG at*;omega
 have hn1:(eD p f g h t<|i+1).1=lv (eD p f g h t i).1 ((p:G)^(i+1)) (oC ((p:G)^(i+1)) p f g t (eD p f g h t i).1 (eD p f g h t i).2):=rfl;have hn2:(eD p f g h t<|i+1).2=lv (eD p f g h t i).2 ((p:G)^(i+1)) (zd ((p:G)^(i+1)) p f g h t (eD p f g h t i).1 (eD p f g h t i).2):=rfl;have hE:jo ((p:G)^(i+1)) p f (eD p f g h t i).1 (eD p f g h t i).2=(mG f (eD p f g h t i).1 (eD p f g h t i).2).map λx=>x/(p:G)^(i+1)%(p:G):=rfl
 have hGE:oC ((p:G)^(i+1)) p f g t (eD p f g h t i).1 (eD p f g h t i).2=(aL (cH t (aK<|jo ((p:G)^(i+1)) p f (eD p f g h t i).1 (eD p f g h t i).2) p) g p).2:=rfl;have hKE:zd ((p:G)^(i+1)) p f g h t (eD p f g h t i).1 (eD p f g h t i).2=(aL (aK<|fG (aK<|jo ((p:G)^(i+1)) p f (eD p f g h t i).1 (eD p f g h t i).2) (cH (oC ((p:G)^(i+1)) p f g t (eD p f g h t i).1 (eD p f g h t i).2) h p) p) g p).1:=rfl;have Q:mG f (eD p f g h t i).1 (eD p f g h t i).2=aK (kv f<|aK<|kJ (eD p f g h t i).1 (eD p f g h t i).2):=rfl;have gB:∀d,aG m ((eD p f g h t i).1.getD d 0):=λd=>by have:=B.Gr d;unfold aG at*;omega
 have kB:∀d,aG m ((eD p f g h t i).2.getD d 0):=λd=>by have:=B.Kr d;unfold aG at*;omega
 generalize hG0:(eD p f g h t i).1=e at*;generalize hK0:(eD p f g h t i).2=K at*;generalize F5:(p:G)^(i+1)=q at*;refine M<|I J<|c J (λs=>?_)<|λs=>?_
 .have s:i<k:=by have s:((i+1:Y):G)<((k+1:Y):G):=aT s;omega
  have gl:=B.Gl;have kl:=B.Kl;have Fy:=XY e K m m O O O gB kB;have U:∀i,aG (2*m+1+u) (E (aK<|kJ e K) i 0):=λi=>by rw[<-cy,o7,cy];exact(ZJ e K m m gB kB O O i).le O
  have hil:Z (aK<|kJ e K)<=200:=by have:=oc<|kJ e K;rw[Hq]at this;omega
  have W:=adf f (aK<|kJ e K) (2*m+1+u) O O O (λi=>(hu i).le O) U;have b:∀i,aG (2*m+2+u) (E (mG f e K) i 0):=λi=>by rw[Q,<-cy,o7,cy,Eh];exact(((hu i).le (O:u<=2*m+1+u)).sub<|U i).le O
  rw[<-Q]at W;have hLl:Z (jo q p f e K)=Z (mG f e K):=by rw[hE,cR]
  have hLr:∀d,d<Z (mG f e K)->E (jo q p f e K) d 0=E (mG f e K) d 0/q%(p:G):=λd _=>by rw[hE];exact getD_map (f:=λx=>x/q%(p:G)) TH _ d
  have T:rp p (jo q p f e K):=λd=>by rw[hE,getD_map (f:=λx=>x/q%(p:G)) TH];exact⟨ij _ O,ik _ O⟩
  have htr:=wB (jo q p f e K) p O O O<|λd=>(T d).1;rw[Gy T]at htr;have tl:=A.tl;have yi:=te t (aK<|jo q p f e K) p O O O O A.tc.1 e2.1;have Qv:=uG t (aK<|jo q p f e K) p;have uy:=rN p H.hp H.le (cH t (aK<|jo q p f e K) p) g O O (mr H.pos _ _) A.hg.c A.hg.ne;rw[<-hGE]at uy;have hm2:=te (oC q p f g t e K) h p O O O O e4.1 A.hh.c.1;have asG:=uG (oC q p f g t e K) h p;have aoI:=Gz (aK<|jo q p f e K) (cH (oC q p f g t e K) h p) p O O O O e2.1 (mr H.pos _ _).1;have pq:=oc<|fG (aK<|jo q p f e K) (cH (oC q p f g t e K) h p) p;rw[K0]at pq;have Nm:=yp p H.hp H.le (aK<|fG (aK<|jo q p f e K) (cH (oC q p f g t e K) h p) p) g O O (kg H.pos<|Ax H.pos _ _) A.hg.c A.hg.ne;rw[<-hKE,uF e6.2]at Nm;have ha1:=AA e q (oC q p f g t e K) m O O O gB o (λd=>by have:=e4.1 d;omega);have LD:=AA K q (zd q p f g h t e K) m O O O kB o (λd=>by have:=e6.1 d;omega);rw[adl A q B.Gm O,<-hn1]at ha1;rw[adl A q B.Km O,<-hn2]at LD;have TM:=kd q p (o.sm O)<|(aG.one (a:=(p:G)) O).sm O;generalize oC q p f g t e K=dg at*;generalize zd q p f g h t e K=dh at*;generalize jo q p f e K=L at*;generalize mG f e K=D at*;refine c7<|aI<|M<|ay<|R<|rc J J Fy<|rc J J W<|j J<|R<|fM aq [] J J (j J<|M<|I J ?_)
  refine ay<|bf (α:=Y) (λd=>⟨[(0,N .z f),(1,N aq g),(2,N aq h),(3,cU p),(4,y ((k+1:Y):G)),(10,.c<|.P 0 0),(11,N aq t),(12,.c<|.P 2005000 0),(13,.c<|.P 3003000 0),(14,y ((i+1:Y):G)),(15,N .z D),(16,.c<|.X 7000000),(17,y d)],[(0,.box 208 0 [.V (.slice none 0 0),.V<|.slice none 0 0]),(2005000,.box 208 0 [.S .z e,.S .z K]),(3003000,.box 42 0<|av .z q),(7000000,.vec 150 aq<|List.take d L)],9,[]⟩) (λd=>d<=Z D) (λd=>Z D-d) 0 (a8 _) aU ?_;intro d hj;have hl:(List.take d L).length=d:=bV;refine M<|I J<|c J (λl=>?_)<|λl=>?_
  .have l:d<Z D:=by have l:(d:G)<(Z D:G):=aT l;omega
   have ej:af ((d:G))=d:=b6 d;have yh:=C1 (E D (af<|(d:G)) 0) q O ((b _).sm O)<|o.sm O;have Al:=XZ (E D (af<|(d:G)) 0/q) p O O (by
    have h1:=b<|af<|(d:G);have h2:aG (2*m+2+u) (E D (af<|(d:G)) 0/q):=by have:=TN (E D (af<|(d:G)) 0) q;unfold aG at*;omega
    exact h2.sm O)
   refine aD<|M<|ay ?_;refine R<|rc J J yh (j J ?_) (hp:=aF);refine cA<|rc J J Al<|rl aq [_] J J (ra J J J J J J J J J ?_ ?_<|j J ?_)
   .show(_+1+(_+1)/4+192)*8<=_;omega
   .show(_+1)*1<=_;omega
   refine bH<|rt J (hp:=aF)<|aS (d+1) l (O:Z D-(d+1)<Z D-d)<|Wk.trans (wk (st':=⟨[(0,N .z f),(1,N aq g),(2,N aq h),(3,cU p),(4,y ((k+1:Y):G)),(10,.c<|.P 0 0),(11,N aq t),(12,.c<|.P 2005000 0),(13,.c<|.P 3003000 0),(14,y ((i+1:Y):G)),(15,N .z D),(16,.c<|.X 11005000),(17,y ((d+1:Y):G))],[(0,.box 208 0 [.V (.slice none 0 0),.V<|.slice none 0 0]),(2005000,.box 208 0 [.S .z e,.S .z K]),(3003000,.box 42 0<|av .z q),(11005000,.vec 150 aq<|List.take (d+1) L)],24,[]⟩) (bJ J) ⟨bR J,bR J,bR J,bE J ?_,TL⟩)<|Wk.trans (gw 7000000 11005000 J J J) aU;refine a6 (aE.vec 150 aq) ?_;rw[qy _ d O,hLr d l,ej]
  .have l:d=Z D:=by have l:¬(d:G)<(Z D:G):=a4 l;omega
   subst l;rw[iO O];refine bh<|aI<|c8 7000000 J J J<|bw J J htr J ?_;refine R<|rc J J yi<|rc J J uy<|j J<|R<|rc J J hm2<|rc J J aoI<|rc J J Nm<|j J ?_;refine R<|rc J J ha1<|rc J J LD<|j J ?_;refine cA<|rc J J (iI p O O) (rc J J TM<|j J ?_) (hp:=aF);refine bH<|rt J (hp:=aF)<|aS (i+1) s Lb<|wk (bJ J) ⟨bE J J,bE J J,bE J ?_,TL⟩;rw[fb,F5];rfl
 .have s:i=k:=by have s:¬((i+1:Y):G)<((k+1:Y):G):=a4 s;omega
  subst s;refine bh<|aI ?_;rw[hG0,hK0];exact I J<|bO J J
end
section
variable{p:Y}(H:bp p)
open Classical in
noncomputable def xl(p:Y)(g a:V G):V G:=if e:∃t,bs p t/\Z t<Z g/\(fx g:Fx p)∣fx t*fx a-1/\r z 258 [N aq g,N aq a,cU p] (N aq t)then AU e else[]
include H in
def aoJ{g a:V G}(f:Mon p g)(i:Mon p a)(k:2<=Z g)(l:Z g<=100)(m:a.length<=100)(d:Co (fx g:Fx p) (fx a)):bs p (xl p g a)/\Z (xl p g a)<Z g/\(fx g:Fx p)∣fx (xl p g a)*fx a-1/\r z 258 [N aq g,N aq a,cU p] (N aq<|xl p g a):=by have e:=aov H f i k l m d;unfold xl;rw[dif_pos e];exact uL e
noncomputable def sd(p k:Y)(f:V G)(l:V (V G)):V G×V G:=eD p f (l.getD 0 []) (jC p l.tail<|Z l.tail) (xl p (l.getD 0 [])<|jC p l.tail<|Z l.tail)<|k-1
noncomputable def qX(p k:Y):V G->V (V G)->V (V G)
 |_,[]=>[]
 |f,[_]=>[f.map (dt · ((p:G)^k))]
 |f,g::a::d=>(sd p k f<|g::a::d).1.map (dt · ((p:G)^k))::qX p k (sd p k f<|g::a::d).2 (a::d)
structure vo(p:Y)(f:V G)(l:V (V G)):Prop where
 fm:aH f
 ok:∀g∈l,Mon p g/\2<=g.length
 pr:(fx f:Fx p)=gY p l
 co:l.Pairwise (λx a=>Co (fx x:Fx p)<|fx a)
 fl:f.length=1+dn l
 d9:dn l<=90
def adr:∀l:V (V G),gY p l=fv l
 |[]=>rfl
 |f::l=>by rw[gY,fv,adr l]
def ads:∀{l:V (V G)}{g:V G},g∈l->Z g<=1+dn l
 |x::l,g,a=>by
  rw[dn];rcases bX.1 a with rfl|a
  .omega
  .have:=ads a;omega
include H
def vo.two{f g a:V G}{d:V (V G)}(e:vo p f (g::a::d)):Ie p f g (jC p (a::d) (a::d).length) (xl p g<|jC p (a::d) (a::d).length)/\r z 258 [N aq g,N aq<|jC p (a::d) (a::d).length,cU p] (N aq<|xl p g<|jC p (a::d) (a::d).length):=by
 let ⟨k,g2⟩:=e.ok g ax;let ⟨t1,t2,t3⟩:=Ic H (l:=a::d) (λx hx=>⟨(e.ok x lA).1,by have:=(e.ok x lA).2;omega⟩) _<|aW _;rw[fR]at t2 t3;let ⟨t,h2⟩:=e.ok a ax;let ⟨c1,_⟩:=jr.1 e.co;have u:dn (g::a::d)=(Z g-1)+dn (a::d):=rfl;have m:dn (a::d)=(a.length-1)+dn d:=rfl;have v:=e.d9;have B:=e.fl;have i:Co (fx g:Fx p) (fx<|jC p (a::d) (a::d).length):=by rw[t2,adr];exact acO H c1
 let ⟨n,o,q,s⟩:=aoJ H k t1 g2 O O i;refine⟨⟨H,e.fm,k,t1,g2,O,O,O,O,?_,n,o,q⟩,s⟩;rw[e.pr,t2];rfl
def vo.next{f g a:V G}{d:V (V G)}(e:vo p f (g::a::d)){k:Y}(i:1<=k):tL p f g (jC p (a::d) (a::d).length) (sd p k f<|g::a::d).1 (sd p k f<|g::a::d).2 k/\vo p (sd p k f<|g::a::d).2 (a::d):=by let ⟨T,_⟩:=e.two H;have I:=T.all<|k-1;rw[(O:k-1+1=k)]at I;have I:tL p f g (jC p (a::d) (a::d).length) (sd p k f<|g::a::d).1 (sd p k f<|g::a::d).2 k:=I;let ⟨t1,t2,t3⟩:=Ic H (l:=a::d) (λx hx=>⟨(e.ok x lA).1,by have:=(e.ok x lA).2;omega⟩) _<|aW _;rw[fR]at t2 t3;have m:dn (g::a::d)=(Z g-1)+dn (a::d):=rfl;have n:=e.d9;exact⟨I,I.Km,λx hx=>e.ok x lA,by rw[I.Kp,t2],(jr.1 e.co).2,by rw[I.Kl,t3],O⟩
def adt{k:Y}(u:1<=k):∀(l:V (V G))(f:V G),vo p f l->Eg p k f l (qX p k f l)
 |[],f,d=>by
  refine⟨J,λi o=>absurd o ax,?_⟩;have e:f=[1]:=by
   have v:=d.fl;have q:=d.fm.2;match f,v with
   |[c],_=>rw[show c=1 from q]
  rw[e,K3];exact Cg.refl _ _
 |[g],f,d=>by
  have m:(1:G)<(p:G)^k:=by obtain⟨j,rfl⟩:∃j,k=j+1:=⟨k-1,O⟩;have:=H.hp.1;have q:(0:G)<(p:G)^j:=mI O;have x:=gL (O:(1:G)<=(p:G)^j) (O:(0:G)<=p);rw[fb];omega
  have a:(p:G)∣(p:G)^k:=by obtain⟨j,rfl⟩:∃j,k=j+1:=⟨k-1,O⟩;rw[fb];exact A2 _ _
  have C:=d.fl;let ⟨F,g2⟩:=d.ok g ax;have L:dn [g]=Z g-1:=rfl;refine⟨J,λi o=>?_,?_⟩
  .have s:i=0:=by simp at o;omega
   subst s;show aH (f.map (dt · ((p:G)^k)))/\(f.map (dt · ((p:G)^k))).length=Z g/\(fx (f.map (dt · ((p:G)^k))):Fx p)=fx g/\∀j,dt ((f.map (dt · ((p:G)^k))).getD j 0) ((p:G)^k)=(f.map (dt · ((p:G)^k))).getD j 0;refine⟨A1 m d.fm,by rw[cR];omega,?_,λj=>?_⟩
   .have e:(fx f:Fx p)=fx g:=by rw[d.pr,gY,gY,mul_one]
    rw[<-e];refine LR<|Cg.of λi=>?_;rw[cy,cy,pG _ O,<-r6 _ a,yL O,r6 _ a]
   .rw[pG _ O];exact L6<|yL O _
  .show Cg _ (ps f) (ps (f.map (dt · ((p:G)^k)))*1);rw[PS.mul_one];exact Cg.of λi=>by rw[cy,cy,pG _ O,yL O]
 |g::h::r,f,d=>by
  let ⟨I,B⟩:=d.next H u;have t:=adt u (h::r) _ B;have m:(1:G)<(p:G)^k:=by obtain⟨j,rfl⟩:∃j,k=j+1:=⟨k-1,O⟩;have:=H.hp.1;have q:(0:G)<(p:G)^j:=mI O;have x:=gL (O:(1:G)<=(p:G)^j) (O:(0:G)<=p);rw[fb];omega
  have a:(p:G)∣(p:G)^k:=by obtain⟨j,rfl⟩:∃j,k=j+1:=⟨k-1,O⟩;rw[fb];exact A2 _ _
  rw[qX];generalize (sd p k f<|g::h::r).1=n at*;generalize (sd p k f<|g::h::r).2=K at*;refine⟨by rw[gQ,t.len];rfl,λi o=>?_,?_⟩
  .cases i with
   |zero=>
    show aH (n.map (dt · ((p:G)^k)))/\(n.map (dt · ((p:G)^k))).length=Z g/\(fx (n.map (dt · ((p:G)^k))):Fx p)=fx g/\∀j,dt ((n.map (dt · ((p:G)^k))).getD j 0) ((p:G)^k)=(n.map (dt · ((p:G)^k))).getD j 0
    refine⟨A1 m I.Gm,by rw[cR,I.Gl],?_,λj=>?_⟩
    .rw[<-I.Gp];refine LR<|Cg.of λi=>?_;rw[cy,cy,pG _ O,<-r6 _ a,yL O,r6 _ a]
    .rw[pG _ O];exact L6<|yL O _
   |succ i=>exact t.ok i (by simp only[gQ]at o⊢;omega)
  .show Cg _ (ps f) (ps (n.map (dt · ((p:G)^k)))*oo (qX p k K<|h::r));refine I.pr.trans<|Cg.mul (Cg.of λi=>?_) t.pr;rw[cy,cy,pG _ O,yL O]
omit H in
def aoK{l:V (V G)}{i:Y}(a:i+1<Z l):∃d e,az i l=l.getD i []::d::e/\az (i+1) l=d::e:=by
 have g:az i l=l.getD i []::az (i+1) l:=by rw[qk O,aM,cK O];rfl
 have f:az (i+1) l=l.getD (i+1) []::az (i+2) l:=by rw[qk a,aM,cK a];rfl
 exact⟨_,_,by rw[g,f],f⟩
def aoL{f:V G}{l:V (V G)}(pO:vo p f l){k u w:Y}(k1:1<=k)(kk:k<=1000)(hu:∀i,aG u (E f i 0))(hw:aG w ((p:G)^k))(u9:u<=1000)(w9:w<=u)(w1:1<=w):r z 179 [N .z f,N (.sl aq) l,cU p,y k] (N (.sl .z)<|qX p k f l):=by
 have Ib:=H.hp.1;have adk:=H.le;have Q:(0:G)<(p:G)^k:=mI O;have Xw:Z l<=90:=by have h1:=(S9 (l:=l) λg hg=>(pO.ok g hg).2).1;have d:=pO.d9;omega
 refine aJ Tryz.func179 ?_;refine I J<|bw J J (QH p k O O) J<|R<|fM (.sl .z) [] J J (j J<|M<|I J ?_);refine ay<|bf (α:=Y×V G×V (V G)) (λa=>⟨[(0,N .z a.2.1),(1,N (.sl aq) l),(2,cU p),(3,y k),(9,.c<|.P 1003000 0),(10,.c<|.X 2000000),(11,y a.1)],[(1003000,.box 42 0<|av .z<|(p:G)^k),(2000000,.vec 161 (.sl .z) a.2.2)],4,[]⟩) (λa=>vo p a.2.1 (az a.1 l)/\a.2.2++qX p k a.2.1 (az a.1 l)=qX p k f l/\Z a.2.2<=a.1/\a.1<=Z l/\(l≠[]->a.1<Z l)/\∀i,aG u (E a.2.1 i 0)) (λa=>Z l-a.1) (0,f,[]) ⟨pO,J,aW _,a8 _,λcq=>cv.2 cq,hu⟩ (wk (bJ J) ⟨bE J J,bR J,A⟩) ?_;rintro⟨i,F,o⟩ ⟨B,s,b3,b4,b5,D⟩;simp only at B s b3 b4 b5 D;have dF:Z F<=91:=by have:=B.fl;have:=B.d9;omega
 refine M<|I J<|c J (λq=>?_)<|λq=>?_
 .have q:i+1<Z l:=by have q:(i:G)+1<(Z l:G):=aT q;omega
  let ⟨b,e,S,U⟩:=aoK q;rw[S]at B s;let ⟨T,hbz⟩:=B.two H;let ⟨L,B'⟩:=B.next H k1;have t:=aot H (l:=b::e) (λx hx=>⟨(B.ok x lA).1,by have:=(B.ok x lA).2;omega⟩) (by have:=B'.d9;omega) (by rw[<-U];simp;omega);have v:=aoA T hbz k1 kk D hw O O w1;have hE:eD p F (l.getD i []) (jC p (b::e)<|Z<|b::e) (xl p (l.getD i [])<|jC p (b::e)<|Z<|b::e) (k-1)=sd p k F (l.getD i []::b::e):=rfl;rw[hE]at v;rw[qX]at s;generalize hG:(sd p k F<|l.getD i []::b::e).1=C at*;generalize hK:(sd p k F<|l.getD i []::b::e).2=K at*;have gB:∀i,aG w (E C i 0):=λi=>by have:=L.Gr i;unfold aG at*;omega
  have kB:∀i,aG u (K.getD i 0):=λi=>by have:=L.Kr i;exact aG.le (by unfold aG at*;omega:aG w (K.getD i 0)) w9
  have gl:Z C<=100:=by rw[L.Gl];exact T.lg
  have m:(1:G)<(p:G)^k:=by have:=L.Gr<|Z C-1;rw[L.Gm.2]at this;omega
  have n:=QJ C ((p:G)^k) w O O Q gB hw;rw[(A1 m L.Gm).trim]at n;have ei:af ((i:G))=i:=b6 i;have z2:(E l (af<|(i:G))<|ET.dA<|.sl aq)=l.getD i []:=a6 (λfV=>l.getD fV []) ei;have es:az (af<|(i:G)+1) (h (Z l) l)=b::e:=by rw[fR,(O:af ((i:G)+1)=i+1),U]
  rw[<-z2]at v;have t:r z 215 [N (.sl aq) (az (af<|(i:G)+1)<|h (Z l) l),cU p] (N aq<|jC p (b::e)<|Z<|b::e):=by rw[es];exact t
  refine aD<|M<|ay ?_;refine R<|rc J J t (rc J J v<|j J ?_) (hp:=aF);refine R<|rc J J n<|rl (.sl .z) [_] J J (ra J J J J J J J J J ?_ ?_<|j J<|rt J ?_)
  .show(Z o+1+(Z o+1)/4+192)*24<=_;omega
  .show(Z o+1)*1<=_;omega
  refine bH<|rt J (hp:=aF)<|aS (i+1,K,o++[C.map (dt · ((p:G)^k))]) ⟨?_,?_,?_,?_,?_,kB⟩ ?_<|Wk.trans (wk (st':=⟨[(0,N .z K),(1,N (.sl aq) l),(2,cU p),(3,y k),(9,.c<|.P 1003000 0),(10,.c<|.X 6006000),(11,y ((i+1:Y):G))],[(1003000,.box 42 0<|av .z<|(p:G)^k),(6006000,.vec 161 (.sl .z)<|o++[C.map (dt · ((p:G)^k))])],16,[]⟩) (bJ J)<|vO J)<|Wk.trans (gw 2000000 6006000 J J J) aU
  .show vo p K (az (i+1) l);rw[U];exact B'
  .show(o++[C.map (dt · ((p:G)^k))])++qX p k K (az (i+1) l)=_;rw[U,<-s,lD];rfl
  .show Z (o++[_])<=i+1;simp;omega
  .show i+1<=_;omega
  .intro _;exact q
  .show Z l-(i+1)<Z l-i;omega
 .have q:¬i+1<Z l:=by have q:¬(i:G)+1<(Z l:G):=a4 q;omega
  refine bh<|aI<|M<|I J<|c J (λd=>?_)<|λd=>?_
  .have d:0<Z l:=by have d:(Z l:G)>0:=aT d;omega
   have hi:=b5<|cv.1 d;have S:az i l=[l.getD i []]:=by rw[qk O,sB O,aM,cK O];rfl
   rw[S]at B s;have m:(1:G)<(p:G)^k:=by obtain⟨W,rfl⟩:∃W,k=W+1:=⟨k-1,O⟩;have d:(0:G)<(p:G)^W:=mI O;have h3:=gL (O:(1:G)<=(p:G)^W) (O:(0:G)<=p);rw[fb];omega
   have n:=QJ F ((p:G)^k) u O O Q D<|hw.le w9;rw[(A1 m B.fm).trim]at n;refine cA<|rc J J n<|rl (.sl .z) [_] J J (ra J J J J J J J J J ?_ ?_<|j J ?_)
   .show(Z o+1+(Z o+1)/4+192)*24<=_;omega
   .show(Z o+1)*1<=_;omega
   refine aI<|c8 6005000 J J J<|I J<|bO J ?_;rw[<-s];rfl
  .have d:l=[]:=fE (by have d:¬(Z l:G)>0:=a4 d;omega);subst d;refine aD<|c8 2000000 J J J<|I J<|bO J ?_;rw[List.drop_nil]at s;rw[<-s];show N (.sl .z) o=_;rw[qX,g8]
end
end Go.El
namespace Go.El
open Go Go.Proofs Go.RowKit
section
variable{n:Y}{sl cc:V (Y×AV)}{mem b9:V (Y×aE)}{nx:Y}{gd cr:V (Y×Bool)}{ops:Array Oper}{draw:Bool}{p:Pr}{ks dx:V Ks}{i i' n0 cx:Y}
variable{R:St->Prop}{os:V Oper}{d:Y}{ty:TypeId}{pos:String}{ig:Array Edge}{dH:V Oper}
def rlg k xs{t e:Y}{a}{u l}{f v}(F:runs dG n nx draw ops.toList os i ⟨sl,mem,n0,gd⟩ .t ks=(⟨some d,.buildSlice t e a,ty,pos,ig,some (u,f)⟩::dH,i',⟨cc,b9,cx,cr⟩,p,dx))(H:p7 ops.toList u=some l)(L:S l cc=some (.c<|.B v))(m:v=f){P}{x}(Q:sJ dG ⟨cc,b9,cx,cr⟩ t e a.toList=some (P,x,xs.flatMap<|av k))
  (U:RG z n ops draw nx (i'+1) dH ⟨(d,.c<|.S k xs)::cc,b9,cx,cr⟩ (gU draw dx (.s l::bD (Op.buildSlice t e a).operands.toList,[.s d])) R) (W:x.size=k.n:=by rfl) (vQ:Z xs=e:=by rfl) (xR:Nat.ble (e*k.n) 16777216=ae:=by rfl)
  (hp:p:=by exact k9) (o:Nat.blt d n=ae:=by rfl):RG z n ops draw nx i os ⟨sl,mem,n0,gd⟩ ks R:=
 jX cj F hp (mR (λC=>Ot C J H L m<|Vf (ops:= #[⟨some d,.buildSlice t e a,ty,pos,ig,none⟩]) (i:=0) J J J (c9 o) _ OI<|λ_ _ _ _ _ _ g q=>OF cj g J W vQ (c9 xR) Q q)<|mT U)
end
def aoO a d:dz (a.num*(d.den:G)) (d.num*(a.den:G))=m7 a d:=by
 have g:=Rat.lt_iff a d;have f:=Rat.lt_iff d a;unfold dz m7;by_cases c1:a<d
 .rw[ao c1,ao<|g.1 c1]
 .rw[w c1,w<|λh=>c1<|g.2 h];by_cases e:d<a
  .rw[ao e];first|rw[ao (f.1 e)]|rw[w (by have:=f.1 e;omega)]
  .rw[w e];first|rw[w (λh=>e<|f.2 h)]|rw[ao (by have:=mt f.2 e;have:=mt g.2 c1;omega)]
def aoP{k}(u:k<=1000000000)(a d:V Rat)(v:Z a<=1000)(n:∀i,QS k (E a i 0)):r z 16 [N .q a,N .q d] (cB<|decide<|a=d):=by
 refine aJ Tryz.func16 ?_;refine I J<|M<|I J<|c J (λh=>?_)<|λh=>aD ?_
 .have h:=yl h;refine I J<|bI<|cG<|eB J<|a6 cB ?_;rw[n8 (λe=>h uI)]
 .have h:=wu h;have o:Z a=Z d:=O;refine M<|I J<|ay<|bf (α:=Y) (λi=>⟨[(0,N .q a),(1,N .q d),(5,y i)],[],4,[]⟩) (λi=>i<=Z a/\∀g,g<i->E a g 0=E d g 0) (λi=>Z a-i) 0 ⟨a8 _,λg m=>absurd m<|Ch _⟩ aU ?_;rintro i ⟨x,ht⟩;refine M (I J<|c J (λl=>?_)<|λl=>?_)
  .have l:i<Z a:=by have l:(i:G)<(Z a:G):=aT l;omega
   have p:af ((i:G))=i:=b6 i;have s:r z 21 [aQ (E a (af<|(i:G)) 0),aQ<|E d (af<|(i:G)) 0] (cB<|decide<|List.getD a i 0=E d i 0):=by rw[p];exact Ya _ _ (n i) O
   refine aD<|M<|ay<|R<|rc J J s (j J<|c J (λf=>?_)<|λf=>c7<|bH ?_) (hp:=aF)
   .have f:E a i 0≠E d i 0:=λe=>by have f:(!decide (List.getD a i 0=E d i 0))=ae:=f;rw[qq e]at f;cases f
    refine I J<|bI ?_;repeat(first|refine cG ?_|refine kE ?_|refine k8 ?_)
    refine eB J<|a6 cB ?_;rw[n8 (λe=>f uI)]
   .have f:E a i 0=E d i 0:=by
     have f:(!decide (List.getD a i 0=E d i 0))=ah:=f;by_cases e:E a i 0=E d i 0
     .exact e
     .rw[n8 e]at f;cases f
    refine rt J<|aS (i+1) ⟨l,λg m=>?_⟩ nY aU;by_cases e:g=i
    .rw[e];exact f
    .exact ht g O
  .have l:i=Z a:=by have l:¬(i:G)<(Z a:G):=a4 l;omega
   subst l;refine bh<|aI<|I J<|bO J<|a6 cB ?_;refine(qq<|Rx.Ys o λg=>?_).symm;by_cases t:g<Z a
   .exact ht g t
   .rw[Rx.iJ a O,Rx.iJ d O]
def adu{k}(s:k<=1000000000) a(t:Z a<=1000)(g:E a (Z a-1) 0≠0)(l:∀i,QS k (E a i 0))(m:a≠[]):r z 35 [N .q a] (cB ae):=by
 refine aJ Tryz.func35 ?_;have u:=cv.2 m;refine I J<|M<|I J ?_;refine ay<|bf (α:=Y) (λi=>⟨[(0,N .q a),(3,y i)],[],4,[]⟩) (λi=>i<=Z a) (λi=>Z a-i) 0 (a8 _) aU ?_;intro i v;refine M<|I J<|c J (λd=>?_)<|λd=>?_
 .have d:i<Z a:=by have d:(i:G)<(Z a:G):=aT d;omega
  have n:=aju (k:=k) (E a (af<|(i:G)) 0) (l _) O;refine aD<|M<|ay<|R<|rc J J n (j J<|c J (λf=>by cases f)<|λf=>c7<|bH ?_) (hp:=aF);exact rt J<|aS (i+1) d nY aU
 .refine bh<|aI ?_;have o:af ((Z a:G)-1)=Z a-1:=O;have p:=PL<|E a (af<|(Z a:G)-1) 0;refine R (rg 19 J J (λh=>?_)<|λ_=>fX J J J J J p (j J<|bO J<|a6 cB ?_) (hp:=aF))
  .exfalso;have h:((Z a:G)==0)=ae:=h;have:=eq_of_beq h;omega
  .show(eS (E a (af<|(Z a:G)-1) 0).num !=0)=ae;rw[o];exact bne_iff_ne.2 λe=>g<|uJ<|uH.1 e
def aoQ{k}(s:k<=1000000000) a d(t:Z a<=1000)(u:Z d<=1000)(n:∀i,QS k (E a i 0))(o:∀i,QS k (E d i 0)):r z 181 [N .q a,N .q d] (cB<|decide<|iM a d<0):=by
 refine aJ Tryz.func181 ?_;refine I J<|M<|I J<|c J (λh=>?_)<|λh=>aD ?_
 .have h:=yl h;refine I J<|bI<|cG<|eB J<|a6 cB ?_;rw[iM,ao O,ox];refine decide_eq_decide.2 ⟨λe=>by rw[ao e];decide,λe=>?_⟩;split at e
  .assumption
  .split at e<;>omega
 .have h:(Z a:G)=(Z d:G):=wu h;rw[show iM a d=pN a d (Z a)by rw[iM,w O]];refine M<|I J ?_;refine ay<|bf (α:=Y) (λk=>⟨[(0,N .q a),(1,N .q d),(5,y<|(k:G)-1)],[],4,[]⟩) (λk=>k<=Z a/\pN a d (Z a)=pN a d k) (λk=>k) (Z a) ⟨aW _,J⟩ aU ?_;rintro i ⟨v,hc⟩;refine M (I J<|c J (λg=>?_)<|λg=>?_)
  .have g:0<i:=by have g:(i:G)-1>=0:=aT g;omega
   obtain⟨j,rfl⟩:∃j,i=j+1:=⟨i-1,O⟩;have p:af (((j+1:Y):G)-1)=j:=O;have m:r z 216 [aQ (E a (af<|((j+1:Y):G)-1) 0),aQ<|E d (af<|((j+1:Y):G)-1) 0] (y<|m7 (E a j 0)<|E d j 0):=by rw[p,<-aoO];exact ajp (k:=k) _ _ (n _) (o _) O
   rw[pN]at hc;rw[hc];generalize m7 (E a j 0) (E d j 0)=l at*;refine aD<|M<|ay<|R<|rc J J m (re J<|c J (λf=>?_)<|λf=>c7<|bH ?_) (hp:=aF)
   .have f:l≠0:=bne_iff_ne.1 f;refine R<|rc J J m (re J<|bI ?_) (hp:=aF);repeat(first|refine cG ?_|refine kE ?_|refine k8 ?_)
    refine eB J ?_;rw[ao f]
   .have f:l=0:=by
     have f:(l !=0)=ah:=f;by_cases e:l=0
     .exact e
     .rw[bne_iff_ne.2 e]at f;cases f
    refine rt J (hp:=aF)<|aS j ⟨O,?_⟩ rK<|wk ⟨sR J,sR J,sE J ?_,A⟩ A
    .exact w<|λe=>e f
    .exact iz (O:((j+1:Y):G)-1-1=(j:G)-1)
  .have g:i=0:=by have g:¬(i:G)-1>=0:=a4 g;omega
   subst g;rw[hc];exact bh<|aI<|I J<|cJ J
def aoR l x(hl:Z l<=1000)(H:Ef 20 x)(L:∀o∈l,Ef 20 o):r z 142 [N UT l,.a<|av UT x] (N UT<|qW ([],0) (λo=>decide<|iM x.1 o.1<0) x l):=by
 refine aJ Tryz.func142 ?_;have s:=TC ([],0) (λo=>decide<|iM x.1 o.1<0) x l;have Q:=TB ([],0) (λo=>decide<|iM x.1 o.1<0) x l;generalize B:iD ([],0) (λo=>decide<|iM x.1 o.1<0) x l=f at*;refine I J<|R<|fM UT [] J J (j J<|I J<|M<|I J ?_);refine ay<|bf (α:=Y) (λi=>⟨[(0,N UT l),(3,.c<|.P 0 0),(5,.c<|.X 1000000),(6,cB (f i).1),(7,y i)],[(0,.box 114 0<|av UT x),(1000000,.vec 114 UT (f i).2)],4,[]⟩) (λi=>i<=Z l) (λi=>Z l-i) 0 (a8 _) (by rw[<-B];exact(wk (bJ J) ⟨bE J J,bR J,A⟩)) ?_;intro i D;have t:=s i;have U:(f i).2.length<=1001:=by split at t<;>omega
 refine M<|I J<|c J (λh1=>?_)<|λh1=>?_
 .have h1:i<Z l:=by have h1:(i:G)<(Z l:G):=aT h1;omega
  have W:af ((i:G))=i:=b6 i;have C:(E l (af<|(i:G))<|ET.dA UT)=E l i ([],0):=a6 (λb=>E l b ([],0)) W;have K:=L (E l i ([],0)) Nk;have F:=aoQ (k:=20) T x.1 (E l i ([],0)).1 H.l K.l H.q K.q;have g:=Q i;have u:=s<|i+1;rw[<-C]at*;obtain⟨V,m⟩:∃V,V=if(!(f i).1&&decide (iM x.1 (E l (af<|(i:G))<|ET.dA UT).1<0))=ae then(f i).2++[x]else(f i).2:=⟨_,J⟩
  have v:(f<|i+1).2=V++[E l (af<|(i:G)) (ET.dA UT)]:=by rw[g,m];split<;>rfl
  have w:Z V<=1001:=by rw[v,ix,rG]at u;split at u<;>omega
  refine aD<|M<|ay ?_;refine m0 ⟨[(0,N UT l),(3,.c<|.P 0 0),(5,.c<|.X 1000000),(6,cB (f<|i+1).1),(7,y i)],[(0,.box 114 0<|av UT x),(1000000,.vec 114 UT V)],8,[]⟩ ?_<|λp=>R<|rg 17 J J (λd=>?_)<|λd=>?_
  .refine cA (rl UT [_] J J (ra J J J J J J J J J ?_ ?_<|j J ?_) (hp:=aF))
   .show(_+1+(_+1)/4+192)*32<=_;omega
   .show(_+1)*2<=_;omega
   refine bH<|rt J<|aS (i+1) h1 wR<|Wk.trans (wk (st':=⟨[(0,N UT l),(3,.c<|.P 0 0),(5,.c<|.X 8006000),(6,cB (f<|i+1).1),(7,y ((i+1:Y):G))],[(0,.box 114 0<|av UT x),(8006000,.vec 114 UT (f<|i+1).2)],16,[]⟩) (bJ J) ⟨bR J,bE J ?_,A⟩)<|Wk.trans (gw 1000000 8006000 J J J) aU;rw[v]
  .have d:(f i).1=ah:=by
    cases e:(f i).1
    .rfl
    .rw[e]at d;cases d
   refine fX J J J J J F (j J<|c J (λn=>?_)<|λn=>?_) (hp:=aF)
   .have n:decide (iM x.1 (E l (af<|(i:G))<|ET.dA UT).1<0)=ae:=n;rw[d,n]at m;rw[d,n]at g;have m:V=(f i).2++[x]:=m;refine R (rl UT [x] J J (ra J J J J J J J J J ?_ ?_<|j J ?_))
    .show(_+1+(_+1)/4+192)*32<=_;omega
    .show(_+1)*2<=_;omega
    refine rt J<|eZ p<|Wk.trans (wk (st':=⟨[(0,N UT l),(3,.c<|.P 0 0),(5,.c<|.X 6003000),(6,cB (f<|i+1).1),(7,y i)],[(0,.box 114 0<|av UT x),(6003000,.vec 114 UT V)],8,[]⟩) ⟨sR J,sR J,sR J,sE J ?_,sR J,A⟩ ⟨bR J,bE J ?_,A⟩)<|Wk.trans (gw 1000000 6003000 J J J) aU
    .rw[g];rfl
    .rw[m]
   .have n:decide (iM x.1 (E l (af<|(i:G))<|ET.dA UT).1<0)=ah:=n;rw[d,n]at m;rw[d,n]at g;have m:V=(f i).2:=m;refine c7 (eZ p<|wk ⟨sR J,sR J,sR J,sE J ?_,sR J,A⟩ ⟨bR J,bE J ?_,A⟩)
    .rw[g,d];rfl
    .rw[m]
  .have d:(f i).1=ae:=by
    cases e:(f i).1
    .rw[e]at d;cases d
    .rfl
   rw[d]at m;rw[d]at g;have m:V=(f i).2:=m;refine j J<|c J (λn=>by cases n)<|λn=>c7<|eZ p<|wk ⟨sR J,sR J,sR J,sE J ?_,sR J,A⟩ ⟨bR J,bE J ?_,A⟩
   .rw[g,d];rfl
   .rw[m]
 .have h1:i=Z l:=by have h1:¬(i:G)<(Z l:G):=a4 h1;omega
  subst h1;refine bh<|aI<|M<|I J<|c J (λd=>?_)<|λd=>?_
  .have d:(f<|Z l).1=ah:=by
    cases e:(f<|Z l).1
    .rfl
    .rw[e]at d;cases d
   refine cA<|rl UT [x] J J (ra J J J J J J J J J ?_ ?_<|j J ?_)
   .show(_+1+(_+1)/4+192)*32<=_;omega
   .show(_+1)*2<=_;omega
   refine aI<|c8 6003000 J J J<|I J<|bO J ?_;unfold qW;rw[B,d];rfl
  .have d:(f<|Z l).1=ae:=by
    cases e:(f<|Z l).1
    .rw[e]at d;cases d
    .rfl
   refine aD<|c8 1000000 J J J<|I J<|bO J ?_;unfold qW;rw[B,d];rfl
def aoS a n(F:n<=1000)(H:Z a<=13)(s:∀i,aG n (E a i 0)):r z 176 [N .z a] (aZ ((fY a:Y):G)):=by
 refine aJ Tryz.func176 ?_;have t:∀i,i<=Z a->aG (n+1) ((ln a i:Y):G):=λi u=>Y5 a s O
 have q:∀d,d<=12->aG (n+2) ((ln a (Z a)*2^d:Y):G):=λd v=>by have g:=t (Z a)<|aW _;have o:2^d<=2^12:=fh T v;unfold aG at*;rw[ob]at*;have f:ln a (Z a)*2^d<=ln a (Z a)*2^12:=ia _ o;rw[fp];generalize (4294967296:Y)^(n+1)=C at*;omega
 refine I J<|bw J J (iI 0 T T) J<|M<|I J ?_;refine ay<|bf (α:=Y) (λi=>⟨[(0,N .z a),(2,.c<|.P 0 0),(3,.c<|.P 1001000 0),(4,y i)],[(0,.box 42 0 [.B ah,.V<|.slice none 0 0]),(1001000,.box 42 0<|av .z ((ln a i:Y):G))],3,[]⟩) (λi=>i<=Z a) (λi=>Z a-i) 0 (a8 _) (wk (bJ J) ⟨bE J J,bE J J,A⟩) ?_;intro i u;refine M<|I J<|c J (λh=>?_)<|λh=>?_
 .have h:i<Z a:=by have h:(i:G)<(Z a:G):=aT h;omega
  have p:af ((i:G))=i:=b6 i;have x:=Ah<|E a (af<|(i:G)) 0;have g:=((t i u).sm O);have o:=(s<|af<|(i:G)).sm (by omega:n<=1099511627776);have k:=PZ _ _ g o;have l:=we _ _ g o;have m:((ln a (i+1):Y):G)=((ln a i:Y):G)+(aA (E a i 0):G):=by rw[ln,wh]
  refine aD<|M<|ay ?_;refine R<|rc J J x (j J<|c J (λf=>?_)<|λf=>?_) (hp:=aF)
  .have f:eS (E a (af<|(i:G)) 0)<0:=aT f;rw[K7,p]at f;refine cA<|rc J J k (j J<|bH<|rt J (hp:=aF)<|aS (i+1) h nY<|wk (bJ J) ⟨bE J J,bE J ?_,A⟩) (hp:=aF);rw[m,(O:(aA (E a i 0):G)= -(E a i 0)),p];rfl
  .have f:¬eS (E a (af<|(i:G)) 0)<0:=a4 f;rw[K7,p]at f;refine cA<|rc J J l (j J<|bH<|rt J (hp:=aF)<|aS (i+1) h nY<|wk (bJ J) ⟨bE J J,bE J ?_,A⟩) (hp:=aF);rw[m,(O:(aA (E a i 0):G)=E a i 0),p];rfl
 .have h:i=Z a:=by have h:¬(i:G)<(Z a:G):=a4 h;omega
  subst h;refine bh<|aI<|M<|I J ?_;refine ay<|bf (α:=Y) (λd=>⟨[(0,N .z a),(2,.c<|.P 0 0),(3,.c<|.P 1001000 0),(5,y ((d+1:Y):G))],[(0,.box 42 0 [.B ah,.V<|.slice none 0 0]),(1001000,.box 42 0<|av .z ((ln a (Z a)*2^d:Y):G))],8,[]⟩) (λd=>d<=Z a-1) (λd=>Z a-d) 0 (a8 _) (wk (bJ J) ⟨bE J J,bE J ?_,A⟩) ?_
  .rw[oY,qj]
  intro d v;refine M<|I J<|c J (λh=>?_)<|λh=>?_
  .have h:d+1<Z a:=by have h:((d+1:Y):G)<(Z a:G):=aT h;omega
   have g:=((q d O).sm O);refine aD<|M<|ay<|cA<|rc J J (we _ _ g g)<|j J<|bH<|rt J (hp:=aF)<|aS (d+1) O (O:Z a-(d+1)<Z a-d)<|wk (bJ J) ⟨bE J J,bE J ?_,A⟩;rw[fp,<-wh,<-Nat.two_mul,gO 2,uB];rfl
  .have h:¬((d+1:Y):G)<(Z a:G):=a4 h;have e:d=Z a-1:=O;subst e;exact bh<|aI<|I J<|bO J J
def qY(f:V G)(k:Y):G:=if k=Z f-1 then 1 else E f k 0*E f (Z f-1) 0^(Z f-2-k)
def Nn(f:V G):V G:=(List.range<|Z f).map<|qY f
def aoT f(x:1<=Z f)(B:Z f<=12)(q:∀i,aG 210 (E f i 0)):r z 170 [N .z f] (N .z<|Nn f):=by
 refine aJ Tryz.func170 ?_;obtain⟨n,u⟩:∃n,Z f=n+1:=⟨Z f-1,O⟩;have g:oy (qY f) 0 (Z f) (Z f)=Nn f:=anF _ _ _;have l:∀k,k<=12->aG 2600 (E f n 0^k):=λk v=>((q n).pow k).le (by have:=ia 210 v;omega)
 refine I J<|I J<|R<|rm .z (Z f) J J J J J J JU ?_ ?_ ?_<|j J ?_
 .show(Z f:G)-1+1=(Z f:G);omega
 .show Z f*32<=_;omega
 .show Z f*2<=_;omega
 refine R<|rc J J (iI 1 T T)<|x5 (T:= .z) (1:G) J J J J J ?_ (j J ?_) (hp:=?_)
 .rw[fF];omega
 .refine bw J J (iI 1 T T) J<|M<|I J ?_;refine ay (bf (α:=Y) (λa=>⟨[(0,N .z f),(3,y n),(4,.c<|.X 2002000),(5,.c<|.P 4001000 0),(6,y<|(n:G)-1-a)],[(2002000,.vec 42 .z<|oy (qY f) 0 (Z f)<|a+1),(4001000,.box 42 0<|av .z<|E f n 0^a)],8,[]⟩) (λa=>a<=n) (λa=>n-a) 0 (a8 _) (wk ⟨sR J,sE J ?_,sR J,sR J,sE J ?_,A⟩ ⟨bE J ?_,bE J ?_,A⟩) ?_)
  .exact a6 y (O:(Z f:G)-1=n)
  .exact a6 y (O:(Z f:G)-1-1=(n:G)-1-(0:Y))
  .refine a6 (aE.vec 42 .z) ?_;rw[anE (qY f) 0 (Z f),(O:af ((Z f:G)-1)=Z f-1-0),<-acj (qY f) 0 (O:0<Z f)];congr 1;show(1:G)=qY f (Z f-1-0);rw[qY,ao O]
  .rw[n7];rfl
  intro a C;refine M<|I J<|c J (λd=>?_)<|λd=>?_
  .have d:a<n:=by have d:(n:G)-1-(a:G)>=0:=aT d;omega
   have t:af ((n:G)-1-(a:G))=Z f-1-(a+1):=O;have e:=l a O;have m:=kd (E f (af<|(n:G)-1-(a:G)) 0) (E f n 0^a) ((q _).sm O)<|e.sm O;have s:E f (af<|(n:G)-1-(a:G)) 0*E f n 0^a=qY f (Z f-1-(a+1)):=by rw[t,qY,w O,(O:Z f-1=n),(O:Z f-2-(n-(a+1))=a)]
   rw[s]at m;have o:=kd (E f n 0^a) (E f n 0) (e.sm O)<|(q n).sm O;rw[<-fb]at o;have F:af ((n:G))=n:=b6 n;have p:=anD (qY f) 0 (Z f)<|a+1;refine aD<|M<|ay<|R ?_;refine rc J J m ?_ (hp:=aF);refine x5 (T:= .z) (qY f<|Z f-1-(a+1)) J J J J J ?_ (j J ?_) (hp:=?_)
   .rw[p];omega
   .clear e l q;refine cA (rc J J o (j J<|bH<|rt J<|aS (a+1) d (O:n-(a+1)<n-a)<|wk ⟨sR J,sR J,sR J,sR J,sE J ?_,A⟩ ⟨bE J ?_,bE J J,A⟩) (hp:=aF))
    .exact a6 y O
    .rw[t,acj (qY f) 0 (O:a+1<Z f)]
   .simp only[Pr.an,Pr.h,num,gf,true_and,and_true];rw[p];omega
  .have d:a=n:=by have d:¬(n:G)-1-(a:G)>=0:=a4 d;omega
   subst d;rw[<-u,g];exact bh<|aI<|c8 2002000 J J J<|I J<|cJ J
 .simp only[Pr.an,Pr.h,num,gf,true_and,and_true];rw[fF];omega
def aoU a g{i}(d:i<Z g):az i (jO a g)=Rat.divInt (E g i 0) ((a:G)^(Z g-1-i))::az (i+1) (jO a g):=by have e:=Nc a g;rw[qk O];have:=Tj a g d;rw[aM,cK O]at this;rw[<-this];rfl
def aoV g(d:Y)(F:0<d)(H:Z g<=12)(u:∀i,aG 210 (E g i 0))(m:aG 210 (d:G)):r z 180 [N .z g,aZ d] (N .q<|jO d g):=by
 refine aJ Tryz.func180 ?_;have f:∀k,k<=12->Sm ((d:G)^k):=λk v=>(m.pow k).sm (by have:=ia 210 v;omega)
 have n:∀k,(d:G)^k≠0:=λk=>Int.ne_of_gt<|mI O
 have o:∀i,Sm (E g i 0):=λi=>(u i).sm O
 have p:Sm (d:G):=m.sm O;clear u m;have x:=Nc d g;refine I J<|R<|rl .q [] J J (j J<|bw J J (iI 1 T T) J<|M<|I J ?_);refine ay<|bf (α:=Y) (λa=>⟨[(0,N .z g),(3,.c<|.P 0 0),(5,N .q<|az (Z g-a)<|jO d g),(6,.c<|.P 2001000 0),(7,y<|(Z g:G)-1-a)],[(0,.box 42 0<|av .z (d:G)),(2001000,.box 42 0<|av .z<|(d:G)^a)],4,[]⟩) (λa=>a<=Z g) (λa=>Z g-a) 0 (a8 _) (wk ⟨sR J,sR J,sE J ?_,sR J,sE J ?_,A⟩ ⟨bE J J,bE J ?_,A⟩) ?_
 .rw[C',sB O]
 .exact a6 y (O:(Z g:G)-1=(Z g:G)-1-(0:Y))
 .rw[n7];rfl
 intro a C;refine M<|I J<|c J (λe=>?_)<|λe=>?_
 .have e:a<Z g:=by have e:(Z g:G)-1-(a:G)>=0:=aT e;omega
  have B:af ((Z g:G)-1-(a:G))=Z g-1-a:=O;have s:=QF (E g (af<|(Z g:G)-1-(a:G)) 0) ((d:G)^a) (n a) (o _)<|f a O;have t:=kd ((d:G)^a) d (f a O) p;have l:=aoU d g (i:=Z g-(a+1)) O;rw[(O:Z g-1-(Z g-(a+1))=a),(O:Z g-(a+1)+1=Z g-a)]at l;refine aD<|M<|ay ?_;refine R<|rc J J s (j J ?_) (hp:=aF);refine R<|fM .q [_] J J (ra J J J J J J J J J ?_ ?_<|j J<|c8 6003000 J J J ?_)
  .show(1+Z (az (Z g-a)<|jO d g)+(1+Z (az (Z g-a)<|jO d g))/4+192)*64<=_;rw[Cj];omega
  .show(1+Z (az (Z g-a)<|jO d g))*4<=_;rw[Cj];omega
  refine cA<|rc J J t<|j J<|bH<|rt J (hp:=aF)<|aS (a+1) e (O:Z g-(a+1)<Z g-a)<|wk ⟨sR J,sR J,sE J ?_,sR J,sE J ?_,A⟩ ⟨bR J,bE J ?_,A⟩
  .rw[l,B,(O:Z g-1-a=Z g-(a+1))];rfl
  .exact a6 y (O:(Z g:G)-1-a-1=(Z g:G)-1-(a+1:Y))
  .rw[fb];rfl
 .have e:a=Z g:=by have e:¬(Z g:G)-1-(a:G)>=0:=a4 e;omega
  subst e;rw[ma,oQ];exact bh<|aI<|I J<|cJ J
def adv(a:Y->Bool):∀n,bT a (n+1)=(if a 0 then 1 else 0)+bT (λi=>a<|i+1) n
 |0=>by rw[bT,bT,bT];omega
 |n+1=>by rw[bT,adv a n,bT];omega
def aoW k n:bT k.testBit (n+1)=k%2+bT (k/2).testBit n:=by
 rw[adv];congr 1
 .rw[Nat.testBit_zero];rcases Nat.mod_two_eq_zero_or_one k with e|e<;>rw[e]<;>rfl
 .exact Hu λi _=>by rw[Nat.testBit_succ]
def adw(a:Y->Bool):∀n,bT a n<=n
 |0=>aW _
 |n+1=>by have:=adw a n;rw[bT];split<;>omega
def adx n:bT (0:Y).testBit n=0:=by
 induction n with
 |zero=>rfl
 |succ n a=>rw[bT,a,Nat.zero_testBit];rfl
def aoX(k n:Y)(f:k<2^n)(l:n<=60):r z 210 [y k] (y<|bT k.testBit n):=by
 refine aJ Tryz.func210 ?_;have p:k<2^60:=hP f<|fh T l;refine I J<|I J<|M<|I J ?_;refine ay<|bf (α:=Y×Y×Y) (λx=>⟨[(3,y x.1),(4,y x.2.1)],[],4,[]⟩) (λx=>x.2.1<2^x.2.2/\x.1+bT x.2.1.testBit x.2.2=bT k.testBit n/\x.2.1<=k) (λx=>x.2.1) (0,k,n) ⟨f,eH _,aW _⟩ aU ?_;rintro⟨o,m,j⟩ ⟨e,d,q⟩;simp only at e d q;have s:=adw k.testBit n;refine M<|I J<|c J (λa=>?_)<|λa=>?_
 .have a:0<m:=by have a:(m:G)>0:=aT a;omega
  obtain⟨i,rfl⟩:∃i,j=i+1:=by
   cases j with
   |zero=>rw[oY]at e;omega
   |succ i=>exact⟨i,J⟩
  rw[aoW]at d;rw[fp]at e;have g:(m:G).tmod 2=((m%2:Y):G):=lJ m 2;have t:(m:G).tdiv 2=((m/2:Y):G):=(Int.ofNat_tdiv m 2).symm;refine aD<|M<|ay<|rt J (bH<|rt J<|aS (o+m%2,m/2,i) ⟨?_,?_,?_⟩ ?_<|wk ⟨sE J ?_,sE J ?_,A⟩ A) (hp:=?_)
  .show m/2<2^i;omega
  .show o+m%2+bT (m/2).testBit i=_;omega
  .show m/2<=k;omega
  .show m/2<m;omega
  .show AV.c (C.I .i64<|(o:G)+(m:G).tmod 2)=_;rw[g];rfl
  .show AV.c (C.I .i64<|(m:G).tdiv 2)=_;rw[t]
  .show(_:Pr).h;simp only[Pr.an,Pr.h,num,gf,true_and,and_true];rw[g];omega
 .have a:m=0:=by have a:¬(m:G)>0:=a4 a;omega
  subst a;rw[adx,iR]at d;subst d;exact bh<|aI<|I J<|cJ J
def kz(F g:V G):V G:=bg (Z F-Z g) 0++g.map (E F (Z F-1) 0*·)
def Bt(g:V G)(x:V G×V G):V G×V G:=(aK<|kv x.1<|kz x.1 g,x.2.set (Z x.1-Z g)<|E x.1 (Z x.1-1) 0)
def vq(g:V G):Y->V G×V G->V G×V G
 |0,x=>x
 |n+1,x=>if Z x.1<Z g then x else vq g n (Bt g x)
structure vr(f g:V G)(u v:Y)(x:V G×V G):Prop where
 can:can x.1
 eq:Rx.zx f=Rx.zx x.2*Rx.zx g+Rx.zx x.1
 ql:x.2.length=f.length+1-g.length
 fl:x.1.length<=f.length
 z:∀i,i+g.length<=x.1.length->x.2.getD i 0=0
 B:∀i,aG (u+(f.length-x.1.length)*(v+1)) (x.1.getD i 0)
def No{F g}(a:Z g<=Z F) i:E (kz F g) i 0=if Z F-Z g<=i then E F (Z F-1) 0*E g (i-(Z F-Z g)) 0 else 0:=by
 unfold kz;by_cases c:Z F-Z g<=i
 .rw[ao c,aM,B5 (by simpa using c),fF,<-aM];exact getD_map (f:=(E F (Z F-1) 0*·)) (gy _) g _
 .rw[w c,aM,B4 bV,ll,ao O];rfl
def aoY{F g}(a:Z g<=Z F):Z (kz F g)=Z F:=by simp[kz];omega
def aoZ{F g}(a:Z g<=Z F):Rx.zx (kz F g)=Rx.K ((E F (Z F-1) 0:G):Rat)*(Rx.X (Z F-Z g)*Rx.zx g):=Rx.ext λi=>by
 rw[Rx.km,No a,Rx.fZ,Rx.mq];split
 .rw[Rx.km,fJ]
 .rw[fO];rfl
def ao0 a:Rx.zx (aK a)=Rx.zx a:=Rx.ext λi=>by rw[Rx.km,Rx.km];congr 1;rw[<-cy,o7,cy]
def ao1 a d:Rx.zx (kv a d)=Rx.zx a-Rx.zx d:=Rx.ext λi=>by rw[Rx.uC,Rx.km,Rx.km,Rx.km,Eh,Lw]
section
variable{f g:V G}{u v:Y}
def vr.next(m:aH g)(p:∀i,aG v (E g i 0)){x}(a:vr f g u v x)(F:¬Z x.1<Z g):vr f g u v (Bt g x)/\(Bt g x).1.length<Z x.1/\∀i,aG (u+(Z f-Z x.1)*(v+1)+v+1) (E (kv x.1<|kz x.1 g) i 0):=by
 have C:=cv.2 m.1;have d:Z g<=Z x.1:=O;have n:∀i,aG (u+(Z f-Z x.1)*(v+1)+v+1) (E (kv x.1<|kz x.1 g) i 0):=λi=>by
  rw[Eh,No d];split
  .exact((a.B i).le O).sub<|(a.B _).mul<|p _
  .rw[Af];exact(a.B i).le O
 have k:∀i,Z x.1-1<=i->E (kv x.1<|kz x.1 g) i 0=0:=λi o=>by
  rw[Eh,No d,ao O];rcases aoz o with e|e
  .rw[eN x.1 O,eN g O,gy];rfl
  .rw[<-e,(O:Z x.1-1-(Z x.1-Z g)=Z g-1),m.2,mm,Int.sub_self]
 have l:(Bt g x).1.length<Z x.1:=by
  show Z (aK<|kv x.1<|kz x.1 g)<_;rcases Ev (kv x.1<|kz x.1 g)with e|e
  .rw[e];simp;omega
  .refine Nat.lt_of_not_le λH=>e ?_
   rw[<-cy,o7,cy];exact k _ O
 have q:=a.ql;have s:=a.fl;refine⟨⟨Ev _,?_,by show(x.2.set _ _).length=_;rw[ru];exact a.ql,O,λi o=>?_,λi=>?_⟩,l,n⟩
 .show Rx.zx f=Rx.zx (x.2.set (Z x.1-Z g)<|E x.1 (Z x.1-1) 0)*Rx.zx g+Rx.zx (aK<|kv x.1<|kz x.1 g);rw[ald _ O (a.z _ O),ao0,ao1,aoZ d,a.eq,Rx.add_mul,Rx.mul_assoc (Rx.K _)<|Rx.X _];generalize Rx.K ((E x.1 (Z x.1-1) 0:G):Rat)*(Rx.X (Z x.1-Z g)*Rx.zx g)=t;rw[Rx.add_assoc,Rx.add_comm t,Rx.kM]
 .show(x.2.set (Z x.1-Z g) _).getD i 0=0;rw[sX _ _ _ _ O,w O];exact a.z i O
 .show aG _ (E (aK<|kv x.1<|kz x.1 g) i 0);rw[<-cy,o7,cy];refine(n i).le ?_;have:(Z f-Z x.1+1)*(v+1)<=(Z f-(Bt g x).1.length)*(v+1):=ef _ O;rw[gk,iT]at this;omega
def ady(a:aH g)(d:∀i,aG v (E g i 0)):∀(n:Y)(x:V G×V G),vr f g u v x->Z x.1<n->vr f g u v (vq g n x)/\(vq g n x).1.length<Z g
 |0,x,_,l=>by omega
 |n+1,x,k,l=>by
  rw[vq];split
  .rename_i e;exact⟨k,e⟩
  .rename_i e;let ⟨m,o,_⟩:=k.next a d e;exact ady a d n _ m O
open Classical in
noncomputable def tN(f g:V G):V G:=if Rx.zx g∣Rx.zx f then lQ f g else[]
def vr.start(d:Go.El.can f)(e:∀i,aG u (E f i 0)):vr f g u v (f,bg (Z f+1-Z g) 0):=by
 have a:∀m i,E (bg m (0:G)) i 0=0:=λm i=>by rw[aM,ll];split<;>rfl
 refine⟨d,?_,fF,aW _,λi _=>a _ i,λi=>(e i).le O⟩;rw[show Rx.zx (bg (Z f+1-Z g) (0:G))=0 from Rx.ext λi=>by rw[Rx.km,a];rfl,Rx.zero_mul,Rx.zero_add]
def ao2(o:aH f)(n:aH g)(F:∀i,aG u (E f i 0))(H:∀i,aG v (E g i 0)):(if(vq g (Z f+1) (f,bg (Z f+1-Z g) 0)).1=[]then(vq g (Z f+1) (f,bg (Z f+1-Z g) 0)).2 else[])=tN f g:=by
 let ⟨I,hl⟩:=ady (f:=f) (u:=u) n H (Z f+1) _ (vr.start o.can F)<|dJ _;generalize vq g (Z f+1) (f,bg (Z f+1-Z g) 0)=x at*;have d:=Rx.nf n;unfold tN;by_cases e:x.1=[]
 .rw[ao e];have K:Rx.zx x.1=0:=by rw[e];exact Rx.nF
  have a:=I.eq;rw[K,Rx.add_zero]at a;rw[ao ⟨_,a⟩];have k:Rx.Mo (Rx.zx x.2):=by have:=Rx.nf o;rw[a]at this;exact this.yy d
  have L:=I.ql;have p:=Rx.dK k.ne d.ne;rw[<-a,Rx.ko o.can,Rx.ko n.can]at p;have m:aH x.2:=by have P:Z x.2=Rx.sz (Rx.zx x.2):=O;have s:Rx.zx x.2 (Rx.sz (Rx.zx x.2)-1)=1:=k;have X:=Rx.eO k.ne;rw[<-P,Rx.km]at s;exact⟨λe=>by have b:Z x.2=0:=a6 Z e;omega,wU.1 (s.trans Rat.intCast_one.symm)⟩
  have l:∃q,aH q/\Rx.zx f=Rx.zx g*Rx.zx q:=⟨_,m,by rw[Rx.mul_comm];exact a⟩;have Q:lQ f g=AU l:=by unfold lQ;rw[dif_pos l]
  let ⟨c1,t⟩:=uL l;rw[<-Q]at c1 t;exact(Rx.akW c1.can m.can<|Rx.yx d.ne<|by rw[<-a,t,Rx.mul_comm]).symm
 .rw[w e,w λB=>e ?_];have a:=I.eq;rw[a]at B;have U:=Rx.wI B<|Rx.dvd_mul_left _ _;have W:=Rx.uO U (by rw[Rx.ko n.can,Rx.ko I.can];exact hl);have C:=Rx.ko I.can;rw[W,Rx.kh]at C;exact fE C.symm
def ao3 t(a:t<=1000):(Z (bg t (0:G))+1+(Z (bg t (0:G))+1)/4+192)*32<=281474976710656:=by rw[fF];omega
def ao4 t(a:t<=1000):(Z (bg t (0:G))+1)*2<=140737488355328:=by rw[fF];omega
def adz(a:V G)(d:Z a<=200):(Z a+1+(Z a+1)/4+192)*32<=281474976710656:=O
def adA(a:V G)(d:Z a<=200):(Z a+1)*2<=140737488355328:=O
def ao5(hf:aH f)(hg:aH g)(hu:∀i,aG u (E f i 0))(hv:∀i,aG v (E g i 0))(lf:Z f<=100)(lg:Z g<=100)(u9:u<=1000)(v9:v<=100):r z 213 [N .z f,N .z g] (N .z<|tN f g):=by
 rw[<-ao2 hf hg hu hv];have I0:=vr.start (u:=u) (v:=v) (g:=g) hf.can hu;have pg:=cv.2 hg.1;have pf:=cv.2 hf.1;generalize hm:Z f+1-Z g=m at*;have hv9:(v+1)*100<=10100:=O;generalize hX:vq g (Z f+1) (f,bg m 0)=X;refine Cf Tryz.func213 J J J J J T ?_;refine I J<|R<|rm .z m J J J J J J JU ?_ ?_ ?_<|j J<|M<|I J ?_
 .rw[ao J];split<;>omega
 .show m*32<=_;omega
 .show m*2<=_;omega
 refine ay<|bf (α:=Y) (λi=>⟨[(0,N .z f),(1,N .z g),(5,.c<|.X 1007000),(6,y i)],[(1007000,.vec 42 .z<|bg m 0)],3,[]⟩) (λi=>i<=m) (λi=>m-i) 0 (a8 _) aU ?_;intro i hi;refine M<|I J<|c J (λd=>?_)<|λd=>?_
 .have d:i<m:=by have d:(i:G)<(Z (bg m (0:G)):G):=aT d;rw[fF]at d;omega
  refine c7<|aI<|M<|ay<|cA<|rc J J (iI 0 T T)<|x5 (T:= .z) (0:G) J J J J J ?_ (j J<|eL<|aI<|rt J (hp:=aF)<|aS (i+1) d (O:m-(i+1)<m-i)<|wk (bJ J) ⟨bE J ?_,A⟩) (hp:=?_)
  .show af ((i:G))<_;rw[fF];omega
  .refine a6 (aE.vec 42 .z)<|sK ax λk l p=>?_;rw[List.getElem_set];split<;>simp
  .simp only[Pr.an,Pr.h,num,gf,true_and,and_true];rw[fF];omega
 have d:i=m:=by have d:¬(i:G)<(Z (bg m (0:G)):G):=a4 d;rw[fF]at d;omega
 subst d;refine mU<|qe<|nv<|mV<|aI ?_;refine M<|ay<|bf (α:=Y×V G×V G) (λq=>⟨[(0,N .z q.2.1),(1,N .z g),(5,.c<|.X 1007000)],[(1007000,.vec 42 .z q.2.2)],8,[]⟩) (λq=>vr f g u v q.2/\Z q.2.1<q.1/\vq g q.1 q.2=X) (λq=>q.1) (Z f+1,f,bg i 0) ⟨I0,dJ _,hX⟩ aU ?_;rintro⟨n,F,Q⟩ ⟨H,hn,x⟩;simp only at H hn x;have hFl:Z F<=Z f:=H.fl;obtain⟨n,rfl⟩:∃n',n=n'+1:=⟨n-1,O⟩;rw[vq]at x;refine M<|I J<|c J (λd=>?_)<|λd=>?_
 .have d:Z g<=Z F:=by have d:(Z F:G)>=(Z g:G):=aT d;omega
  rw[w (O:¬Z F<Z g)]at x;obtain⟨n1,D,n3⟩:=H.next hg hv (O:¬Z F<Z g);have K:=H.B;have Kj:Z Q=Z f+1-Z g:=H.ql;obtain⟨k,hk⟩:∃k,Z F=Z g+k:=⟨Z F-Z g,O⟩;have s:∀a,aG 12000 (E F a 0):=λa=>(K a).le (by have:=ef (v+1) (O:Z f-Z F<=100);show u+(Z f-Z F)*(v+1)<=_;omega)
  have S:∀a,aG 13000 (E (kv F<|kz F g) a 0):=λa=>(n3 a).le (by have:=ef (v+1) (O:Z f-Z F<=100);show u+(Z f-Z F)*(v+1)+v+1<=_;omega)
  have L:∀a,aG 12200 (E (kz F g) a 0):=λa=>by
   rw[No d];split
   .exact((s _).mul<|hv _).le O
   .exact aG.zero _
  have hTl:=aoY d;have TG:=adf F (kz F g) 13000 T O O (λa=>(s a).le T)<|λa=>(L a).le T;have hc:E F (af<|(Z F:G)-1) 0=E F (Z F-1) 0:=by rw[(O:af ((Z F:G)-1)=Z F-1)]
  have hT:kz F g=bg k 0++g.map (E F (Z F-1) 0*·):=by unfold kz;rw[(O:Z F-Z g=k)]
  have hN:Bt g (F,Q)=(aK<|kv F<|kz F g,Q.set k<|E F (Z F-1) 0):=by unfold Bt;show(aK<|kv F<|kz F g,Q.set (Z F-Z g)<|E F (Z F-1) 0)=_;rw[(O:Z F-Z g=k)]
  have hcS:=(s<|Z F-1).sm T;have hgS:∀a,Sm (E g a 0):=λa=>(hv a).sm O
  rw[hN]at n1 D x;clear s S L K n3;generalize hW:aK (kv F<|kz F g)=W at*;generalize hTq:kz F g=jh at*;generalize TO:E F (Z F-1) 0=o at*;refine c7<|aI<|ay<|I J<|I J ?_ (hp:=aF);rw[hc];clear hc TO hX I0 hi hTq hW;refine R<|x5 (T:= .z) o J J J J J ?_ (j J ?_) (hp:=?_)
  .show af ((Z F:G)-(Z g:G))<Z Q;omega
  .refine R<|fM .z [] J J (j J<|M<|I J ?_);rw[(O:af ((Z F:G)-(Z g:G))=k),(O:(Z F:G)-(Z g:G)=(k:G))];refine ay<|bf (α:=Y) (λt=>⟨[(0,N .z F),(1,N .z g),(5,.c<|.X 1007000),(7,y k),(8,.c<|.P 10006000 0),(9,.c<|.X 12000000),(10,y t)],[(10006000,.box 42 0<|av .z o),(12000000,.vec 42 .z<|bg t 0),(1007000,.vec 42 .z<|Q.set k o)],14,[]⟩) (λt=>t<=k) (λt=>k-t) 0 (a8 _) (wk (bJ J) ⟨bE J J,bR J,bR J,A⟩) ?_;intro t ht;have C:t<=1000:=O;refine M (I J<|c J (λl=>?_)<|λl=>?_)
   .have l:t<k:=by have l:(t:G)<(k:G):=aT l;omega
    refine c7<|aI<|M<|ay<|cA<|rc J J (iI 0 T T)<|rl .z [(0:G)] J J (ra J J J J J J J J J ?_ ?_<|j J ?_)
    .exact ao3 t C
    .exact ao4 t C
    refine eL<|aI<|rt J<|aS (t+1) l (O:k-(t+1)<k-t)<|Wk.trans (wk (st':=⟨[(0,N .z F),(1,N .z g),(5,.c<|.X 1007000),(7,y k),(8,.c<|.P 10006000 0),(9,.c<|.X 15003000),(10,y ((t+1:Y):G))],[(10006000,.box 42 0<|av .z o),(15003000,.vec 42 .z<|bg (t+1) 0),(1007000,.vec 42 .z<|Q.set k o)],24,[]⟩) (bJ J) ⟨bR J,bE J ?_,bR J,A⟩)<|Wk.trans (gw 12000000 15003000 J J J) aU;rw[List.replicate_succ']
   have l:t=k:=by have l:¬(t:G)<(k:G):=a4 l;omega
   subst l;refine mU<|qe<|nv<|mV<|aI<|M<|I J ?_;have U:(g.map (o*·)).length=Z g:=cR _;refine ay<|bf (α:=Y) (λa=>⟨[(0,N .z F),(1,N .z g),(5,.c<|.X 1007000),(8,.c<|.P 10006000 0),(9,.c<|.X 12000000),(11,y a)],[(10006000,.box 42 0<|av .z o),(12000000,.vec 42 .z<|bg t 0++(g.map (o*·)).take a),(1007000,.vec 42 .z<|Q.set t o)],20,[]⟩) (λa=>a<=Z g) (λa=>Z g-a) 0 (a8 _) (wk (bJ J) ⟨bR J,bE J ?_,bR J,A⟩) ?_
   .rw[Ge,g8]
   intro a hj;have b:(bg t (0:G)++(g.map (o*·)).take a).length<=200:=by rw[ix,fF,fQ,U];omega
   refine M<|I J<|c J (λp=>?_)<|λp=>?_
   .have p:a<Z g:=by have p:(a:G)<(Z g:G):=aT p;omega
    have ej:af ((a:G))=a:=b6 a;have qi:=kd o (E g (af<|(a:G)) 0) hcS<|hgS _;have hV1:bg t (0:G)++(g.map (o*·)).take (a+1)=bg t (0:G)++(g.map (o*·)).take a++[o*E g (af<|(a:G)) 0]:=by rw[qy (g.map (o*·)) a O,getD_map (f:=(o*·))<|gy o,ej,lD]
    clear U C;generalize bg t (0:G)++(g.map (o*·)).take a=Bs at*;refine c7<|aI<|M<|ay<|cA<|rc J J qi (rl .z [_] J J (ra J J J J J J J J J ?_ ?_<|j J ?_)) (hp:=aF)
    .exact adz Bs b
    .exact adA Bs b
    refine eL<|aI<|rt J<|aS (a+1) p (O:Z g-(a+1)<Z g-a)<|Wk.trans (wk (st':=⟨[(0,N .z F),(1,N .z g),(5,.c<|.X 1007000),(8,.c<|.P 10006000 0),(9,.c<|.X 21008000),(11,y ((a+1:Y):G))],[(10006000,.box 42 0<|av .z o),(21008000,.vec 42 .z<|bg t 0++(g.map (o*·)).take (a+1)),(1007000,.vec 42 .z<|Q.set t o)],32,[]⟩) (bJ J) ⟨bR J,bE J ?_,bR J,A⟩)<|Wk.trans (gw 12000000 21008000 J J J) aU;rw[hV1]
   .have p:a=Z g:=by have p:¬(a:G)<(Z g:G):=a4 p;omega
    subst p;rw[iO O,<-hT];refine mU<|qe<|nv<|mV<|aI<|c8 12000000 J J J<|cA<|rc J J TG<|j J<|eL<|aS (n,W,Q.set t o) ⟨n1,?_,x⟩ (dJ n) aU;show Z W<n;have D:Z W<Z F:=D;omega
  .simp only[Pr.an,Pr.h,num,gf,true_and,and_true];omega
 .have d:Z F<Z g:=by have d:¬(Z F:G)>=(Z g:G):=a4 d;omega
  rw[ao d]at x;subst x;refine mU<|qe<|nv<|mV<|aI<|M<|I J<|c J (λl=>?_)<|λl=>?_
  .have l:F≠[]:=λe=>by have l:(Z F:G)>0:=aT l;rw[e]at l;exact absurd l T
   rw[w l];exact I J<|bI<|cG<|g7 cj J<|bm.nil .z
  .have l:F=[]:=fE (by have l:¬(Z F:G)>0:=a4 l;omega);rw[ao l];exact c7<|aI<|c8 1007000 J J J<|I J<|bI<|g7 cj J<|bm.refl _
end
open Fx
def ao'{m}{a}{l}{d}(k:d∈ls (Z l))(n:Rx.zx (gS m l d.testBit)∣Rx.zx a)(o:∀f∈ls (Z l),bT f.testBit (Z l)<bT d.testBit (Z l)\/(bT f.testBit (Z l)=bT d.testBit (Z l)/\f<d)->¬Rx.zx (gS m l f.testBit)∣Rx.zx a):r7 m a l=some d:=by
 classical
 let ⟨us,ws,e⟩:=NT k;unfold r7;refine List.find?_eq_some_iff_append.2 ⟨qq n,us,ws,e,λf g=>?_⟩;have i:=ane<|Z l;rw[e]at i;have p:=(w5.1 i).2.2 f g d ax;rw[E5,decide_eq_false_iff_not];exact o f (by rw[e];simp[g]) p
def apa{m}{a}{l}(e:∀d∈ls (Z l),¬Rx.zx (gS m l d.testBit)∣Rx.zx a):r7 m a l=none:=by
 classical
 unfold r7;refine List.find?_eq_none.2 λd f=>?_
 rw[decide_eq_true_iff];exact e d f
def jD(m:G)(l:V (V G))(a:Y->Bool)(i:Y):V G:=(jN m [1] (bC a 0<|h i l)).map (dt · m)
def se(l:V (V G))(a:Y->Bool)(i:Y):V (V G):=bC (λi=> !a i) 0<|h i l
def TP{l}{i}(e:i<Z l)(a:Y->Bool):bC a 0 (h (i+1) l)=bC a 0 (h i l)++(if a i then[l.getD i []]else[]):=by
 have d:h (i+1) l=h i l++[l.getD i []]:=by rw[q6,aM,cK e];rfl
 rw[d,ZP];congr 1;rw[bC,bC,(bV:0+(h i l).length=i)]
def apb{l}{i}(d:i<Z l)(a:Y->Bool):se l a (i+1)=if a i=ae then se l a i else se l a i++[l.getD i []]:=by unfold se;rw[TP d];cases a i<;>simp
def adB{m}(d:1<m){l}(g:∀f∈l,aH f)(a:Y->Bool) i:aH (jN m [1] (bC a 0<|h i l))/\aH (jD m l a i)/\Z (jD m l a i)=1+dn (bC a 0<|h i l):=by let ⟨e,h2⟩:=yM d A3 (λf k=>g f (BD<|wZ k):∀f∈bC a 0 (h i l),aH f);refine⟨e,A1 d e,?_⟩;unfold jD;rw[cR,h2];rfl
def apc{m}(n:1<m){l}(g:∀f∈l,aH f){i}(h:i<Z l)(a:Y->Bool):(a i=ah->jD m l a (i+1)=jD m l a i)/\(a i=ae->(kJ (jD m l a i)<|l.getD i []).map (dt · m)=jD m l a (i+1)):=by
 constructor
 .intro e;unfold jD;rw[TP h,e];simp
 .intro e;have d:l.getD i []∈l:=Ru;have o:=g _ d;let ⟨t1,t2,t3⟩:=adB n g a i;have p:jD m l a (i+1)=(rZ (jN m [1] (bC a 0<|List.take i l)) (l.getD i []) m).map (dt · m):=by unfold jD;rw[TP h,e,ao J,ZQ];rfl
  rw[p];refine ak0 O ?_ λj=>?_
  .rw[Hq,RM];have:Z (jD m l a i)=Z (jN m [1] (bC a 0<|List.take i l)):=by unfold jD;rw[cR]
   rw[this]
  .have q:Cg m (ps<|kJ (jD m l a i)<|l.getD i []) (ps<|rZ (jN m [1] (bC a 0<|List.take i l)) (l.getD i []) m):=by
    rw[ZI _ _ t2.1 o.1];refine(Cg.Au ?_ _).trans (RL _ _ _).symm;refine Cg.of λk=>?_
    unfold jD;rw[cy,cy,pG _ O,yL O]
   exact q.at j
def apd(q i:Y)(g:i<=60):((((q:G).fdiv<|2^min (af<|(i:G)) IntKind.i64.bits).tmod 2)==1)=mQ q i:=by
 have a:min (af<|(i:G)) IntKind.i64.bits=i:=by show min _ 64=_;omega
 have d:((2:G)^i)=((2^i:Y):G):=by rw[s7];rfl
 have f:(q:G).fdiv ((2^i:Y):G)=((q/2^i:Y):G):=by rw[Am _ (pB _),wj]
 rw[a,d,f,show(2:G)=((2:Y):G)from J,lJ,Nat.testBit_eq_decide_div_mod_eq];generalize q/2^i%2=z;by_cases h:z=1
 .rw[h];rfl
 .rw[n8 h];exact beq_eq_false_iff_ne.2<|λe=>h O
def adC(a:Y->Bool):∀(l:V (V G))(i:Y),Z (bC a i l)<=Z l
 |[],_=>aW _
 |f::l,i=>by have:=adC a l<|i+1;rw[bC];split<;>simp<;>omega
def ape(a:Y->Bool) l i:dn (bC a 0<|h i l)<=dn l:=by
 have d:=L9 a (h i l) 0;have e:dn (h i l)+dn (az i l)=dn l:=by rw[<-M5,q8]
 omega
def apf{n a}(d:a<2^n)(e:1<=bT a.testBit n)(f:2*bT a.testBit n<=n):a∈ls n:=yO.2 ⟨d,e,O⟩
def TQ(m:G):∀(k:Y)(a:V G)(l:V (V G)),Z (qN m k a l)<=k+1
 |0,a,l=>aW _
 |k+1,a,l=>by
  rw[qN];cases r7 m a l with
  |none=>simp
  |some d=>have:=TQ m k (lQ a<|gS m l d.testBit)<|bC (λi=> !d.testBit i) 0 l;simp;omega
def adD{p:Y}{m:G}{w:Y}(w1:1<=w)(w9:w<=100)(L:aG w m):∀(k:Y)(a:V G)(l:V (V G)),k<=100->Z l<=k->l≠[]->Z l<=8->Z a<=9->gD p m a l->(∀f∈l,∀i,aG w (E f i 0))->r z 178 [N .z a,N (.sl .z) l,aZ m] (N (.sl .z)<|qN m k a l)
 |0,a,l,_,B,v,_,_,_,_=>absurd (fE O) v
 |k+1,a,l,asK,hk,v,l8,a9,C,hlB=>by
  let ⟨m1,JW⟩:=C.m1;have IH:=λa l=>adD (p:=p) w1 w9 L k a l
  rw[qN];refine aJ Tryz.func178 ?_;refine I J<|M<|I J ?_;refine ay<|bf (α:=Y) (λs=>⟨[(0,N .z a),(1,N (.sl .z) l),(5,.c<|.P 0 0),(7,y s)],[(0,.box 42 0<|av .z m)],2,[]⟩) (λs=>1<=s/\s<=9/\∀d∈ls (Z l),bT d.testBit (Z l)<s->¬Rx.zx (gS m l d.testBit)∣Rx.zx a) (λs=>20-s) 1 ⟨aW _,T,λd u B=>absurd (yO.1 u).2.1 O⟩ (wk (bJ J) ⟨bE J J,A⟩) ?_;rintro s ⟨s1,s9,hs⟩;refine M<|I J<|c J (λB=>?_)<|λB=>?_
  .have B:2*s<=Z l:=by have B:2*(s:G)<=(Z l:G):=aT B;omega
   refine aD<|M<|ay<|I J ?_;refine ay<|bf (α:=Y) (λq=>⟨[(0,N .z a),(1,N (.sl .z) l),(5,.c<|.P 0 0),(7,y s),(8,y q)],[(0,.box 42 0<|av .z m)],5,[]⟩) (λq=>1<=q/\q<=2^Z l/\∀d∈ls (Z l),(bT d.testBit (Z l)<s\/(bT d.testBit (Z l)=s/\d<q))->¬Rx.zx (gS m l d.testBit)∣Rx.zx a) (λq=>2^Z l-q) 1 ⟨aW _,Nat.one_le_two_pow,λd u t=>hs d u ?_⟩ aU ?_
   .rcases t with t|⟨t,x⟩
    .exact t
    .have e:d=0:=by omega
     subst e;rw[adx]at t;omega
   rintro q ⟨q1,q2,S⟩;have hp8:2^Z l<=2^8:=fh T l8;have F:IntKind.i64.wrap (1*2^min (af<|(Z l:G)) IntKind.i64.bits)=((2^Z l:Y):G):=by have:∀n:Fin 9,IntKind.i64.wrap (1*2^min (af<|((n:Y):G)) IntKind.i64.bits)=((2^(n:Y):Y):G):=T;exact this ⟨Z l,O⟩
   refine M<|I J<|c J (λt=>?_)<|λt=>?_
   .have t:q<2^Z l:=by have t:(q:G)<IntKind.i64.wrap (1*2^min (af<|(Z l:G)) IntKind.i64.bits):=aT t;rw[F]at t;omega
    clear F;have hon:=aoX q (Z l) t O;refine aD<|M<|ay<|M<|bw J J hon J<|c J (λx=>?_)<|λx=>c7<|aI ?_
    .have x:bT q.testBit (Z l)≠s:=λe=>by have x:((bT q.testBit (Z l):Y):G)≠(s:G):=bne_iff_ne.1 x;omega
     refine mU<|qe<|mV<|aI<|rt J<|aS (q+1) ⟨O,O,λd u g=>S d u ?_⟩ (O:2^Z l-(q+1)<2^Z l-q) aU;rcases g with g|⟨g,o⟩
     .exact .inl g
     .by_cases e:d=q
      .exact absurd (e▸g) x
      .exact .inr ⟨g,O⟩
    have x:bT q.testBit (Z l)=s:=by
     have x:¬((bT q.testBit (Z l):Y):G)≠(s:G):=λe=>by have x:(((bT q.testBit (Z l):Y):G) !=(s:G))=ah:=x;rw[bne_iff_ne.2 e]at x;cases x
     omega
    have hg0:jD m l q.testBit 0=[1]:=by show([1]:V G).map (dt · m)=[1];rw[gR,ZM m1,If]
    refine R<|rc J J (iI 1 T T)<|rl .z [(1:G)] J J (j J<|R<|fM (.sl .z) [] J J (j J<|M<|I J ?_));refine ay<|bf (α:=Y) (λi=>⟨[(0,N .z a),(1,N (.sl .z) l),(5,.c<|.P 0 0),(7,y s),(8,y q),(9,N .z<|jD m l q.testBit i),(10,.c<|.X 8000000),(11,y i)],[(0,.box 42 0<|av .z m),(8000000,.vec 161 (.sl .z)<|se l q.testBit i)],10,[]⟩) (λi=>i<=Z l) (λi=>Z l-i) 0 (a8 _) (by rw[hg0];exact aU) ?_;intro i hi;refine M<|I J<|c J (λg=>?_)<|λg=>?_
    .have g:i<Z l:=by have g:(i:G)<(Z l:G):=aT g;omega
     have hbq:=apd q i O;have ei:af ((i:G))=i:=b6 i;have z2:(E l (af<|(i:G))<|ET.dA<|.sl .z)=l.getD i []:=a6 (λfV=>l.getD fV []) ei;have H:l.getD i []∈l:=by rw[aM,cK g];exact si g
     let ⟨t1,t2,t3⟩:=adB m1 C.lm q.testBit i;let ⟨u1,u2⟩:=apc m1 C.lm g q.testBit;have K:=apb g q.testBit;have hxm:=C.lm _ H;have hxB:=hlB _ H;have Q:∀U,aG w (E (jD m l q.testBit i) U 0):=λU=>by unfold jD;rw[pG _ O];exact QI O L
     have y7:Z (jD m l q.testBit i)<=9:=by have:=ape q.testBit l i;have:=C.len;omega
     have Bk:Z (l.getD i [])<=9:=by have:=ads H;have:=C.len;omega
     have GG:Z (se l q.testBit i)<=8:=by have:=adC (λi=> !q.testBit i) (h i l) 0;have W:(h i l).length<=Z l:=bV;show Z (bC _ 0<|h i l)<=8;omega
     have D:=XY (jD m l q.testBit i) (l.getD i []) w w O O O Q hxB;rw[(t2.ZK hxm).trim]at D;have v:=QJ (kJ (jD m l q.testBit i)<|l.getD i []) m (w+w+1) O (by rw[Hq];omega) O (ZJ _ _ w w Q hxB O O)<|L.le O;rw[(A1 m1<|t2.ZK hxm).trim]at v;rw[<-z2]at D v K u2;refine aD<|M<|ay<|I J<|c J (λo=>?_)<|λo=>?_
     .have o:mQ q i=ae:=hbq▸o;rw[u2 o]at v;refine cA<|rc J J D (rc J J v<|j J<|bH<|rt J<|aS (i+1) g wR<|wk (bJ J) ⟨bR J,bE J ?_,A⟩) (hp:=aF);rw[K,ao o]
     .have o:mQ q i=ah:=hbq▸o;rw[o]at K;refine cA (rl (.sl .z) [_] J J (ra J J J J J J J J J ?_ ?_<|j J ?_) (hp:=aF))
      .show(Z (se l q.testBit i)+1+(Z (se l q.testBit i)+1)/4+192)*24<=_;omega
      .show(Z (se l q.testBit i)+1)*1<=_;omega
      refine bH<|rt J<|aS (i+1) g wR<|Wk.trans (wk (st':=⟨[(0,N .z a),(1,N (.sl .z) l),(5,.c<|.P 0 0),(7,y s),(8,y q),(9,N .z<|jD m l q.testBit<|i+1),(10,.c<|.X 12006000),(11,y ((i+1:Y):G))],[(0,.box 42 0<|av .z m),(12006000,.vec 161 (.sl .z)<|se l q.testBit<|i+1)],24,[]⟩) ⟨sR J,sR J,sR J,sR J,sR J,sE J ?_,sR J,sR J,A⟩ ⟨bR J,bE J ?_,A⟩)<|Wk.trans (gw 8000000 12006000 J J J) aU
      .rw[u1 o]
      .rw[K];rfl
    .have g:i=Z l:=by have g:¬(i:G)<(Z l:G):=a4 g;omega
     subst g;have hgE:jD m l q.testBit (Z l)=gS m l q.testBit:=by unfold jD gS;rw[fR]
     have hrE:se l q.testBit (Z l)=bC (λi=> !q.testBit i) 0 l:=by unfold se;rw[fR]
     rw[hgE,hrE];let ⟨gm,gl⟩:=C.A4 q.testBit;have y7:Z (gS m l q.testBit)<=9:=by have W:=L9 q.testBit l 0;have:=C.len;omega
     have Q:∀U,aG w (E (gS m l q.testBit) U 0):=λU=>by unfold gS;rw[pG _ O];exact QI O L
     have haB:∀U,aG w (E a U 0):=λU=>by have:=C.bd a C.am (Rx.dvd_refl _) U;unfold aG at*;omega
     have hqu:=ao5 C.am gm haB Q O O O O;have hS:q∈ls (Z l):=apf t O O;refine mU<|qe<|nv<|mV<|aI<|c8 8000000 J J J<|R<|rc J J hqu<|j J<|I J<|c J (λo=>?_)<|λo=>?_
     .have b:Rx.zx (gS m l q.testBit)∣Rx.zx a:=eX λhn=>by
       have o:(Z (tN a<|gS m l q.testBit):G)>0:=aT o;have e:tN a (gS m l q.testBit)=[]:=by unfold tN;rw[apm hn]
       rw[e]at o;exact absurd o T
      have hqE:tN a (gS m l q.testBit)=lQ a (gS m l q.testBit):=by unfold tN;rw[ao b]
      have apo:=ao' (a:=a) hS b (λd u B=>S d u<|by rw[x]at B;exact B);let ⟨c1,c2,c3,c4⟩:=C.rest hS b;have c5:Z (lQ a<|gS m l q.testBit)<=9:=by have W:=L9 q.testBit l 0;have h7:=c2.len;have:=C.len;omega
      have ih:=IH (lQ a<|gS m l q.testBit) (bC (λi=> !q.testBit i) 0 l) O O c3 O c5 c2<|λf hf=>hlB f<|wZ hf;rw[apo,hqE];have q9:Z (qN m k (lQ a<|gS m l q.testBit)<|bC (λi=> !q.testBit i) 0 l)<=1000:=by have:=TQ m k (lQ a<|gS m l q.testBit)<|bC (λi=> !q.testBit i) 0 l;omega
      refine R<|fM (.sl .z) [_] J J (rc J J ih<|ra J J J J J J J J J ?_ ?_<|j J<|c8 13006000 J J J<|bI ?_)
      .show(1+Z (qN m k (lQ a<|gS m l q.testBit)<|bC (λi=> !q.testBit i) 0 l)+(1+Z (qN m k (lQ a<|gS m l q.testBit)<|bC (λi=> !q.testBit i) 0 l))/4+192)*24<=_;omega
      .show(1+Z (qN m k (lQ a<|gS m l q.testBit)<|bC (λi=> !q.testBit i) 0 l))*1<=_;omega
      repeat(first|refine cG ?_|refine kE ?_|refine k8 ?_)
      exact eB J J
     .have b:¬Rx.zx (gS m l q.testBit)∣Rx.zx a:=λb=>by
       have o:¬(Z (tN a<|gS m l q.testBit):G)>0:=a4 o;have e:tN a (gS m l q.testBit)=lQ a (gS m l q.testBit):=by unfold tN;rw[ao b]
       let ⟨_,c2,_⟩:=C.rest hS b;have:=cv.2 c2.am.1;rw[e]at o;omega
      refine c7<|bH<|rt J<|aS (q+1) ⟨O,O,λd u W=>?_⟩ (O:2^Z l-(q+1)<2^Z l-q) aU;rcases W with W|⟨W,h7⟩
      .exact S d u<|.inl W
      .by_cases e:d=q
       .rw[e];exact b
       .exact S d u<|.inr ⟨W,O⟩
   .have t:2^Z l<=q:=by have t:¬(q:G)<IntKind.i64.wrap (1*2^min (af<|(Z l:G)) IntKind.i64.bits):=a4 t;rw[F]at t;omega
    refine bh<|bH<|rt J<|aS (s+1) ⟨O,O,λd u W=>S d u ?_⟩ (O:20-(s+1)<20-s) aU;have:=(yO.1 u).1;omega
  .have B:Z l<2*s:=by have B:¬2*(s:G)<=(Z l:G):=a4 B;omega
   have M2:=apa (m:=m) (a:=a) (l:=l) (λd u=>hs d u<|by have:=(yO.1 u).2.2;omega);rw[M2];exact bh<|aI<|R<|rl (.sl .z) [a] J J (j J<|cJ J)
end Go.El
