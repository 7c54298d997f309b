/- Contracts: the reference's order. Own work; no condition. -/
import Derived.Test.YtceihkmakfdcnaaGreatD12
import Derived.Test.YtceihkmakfdcnaaGreatD6
import Derived.Test.YtceihkmakfdcnaaGreatD7
import Derived.Test.YtceihkmakfdcnaaGreatD9
import Derived.Test.YtceihkmakfdcnaaGreatD8
import Derived.Test.YtceihkmakfdcnaaGreatD11
set_option linter.all false
set_option maxHeartbeats 16000000
set_option maxRecDepth 100000
open Bool renaming false->ah,true->ae
open Classical renaming choose->Ci
open Go.El renaming cS->I,rr->N,re->z,du->j,jd->r,cI->R,rb->F
open Go.Proofs.Tryz renaming prog->q,func206->afv
open Int renaming toNat->af
open List renaming length->Z,getD->E,take->c,perm_append_comm->aq9,drop->aA,replicate->bc
open Nat renaming lt_or_eq_of_le->aro,testBit->oU
open _root_ renaming List->V,Int->G,Nat->Y
namespace Go.El
open Go Go.Proofs Go.RowKit Fx
def aq8(a d:V G)(m:Z a<=1000)(n:Z d<=1000):r q 254 [I aw a,I aw d] (cB<|decide<|sk a d<0):=by
 refine aI Tryz.func254 ?_;refine N J<|du<|N J<|al J (λi=>?_)<|λi=>aD ?_
 .have i:=xA i;refine N J<|bL<|cK<|eJ J<|be cB ?_;rw[sk,b O,pU];refine decide_eq_decide.2 ⟨λe=>by rw[b e];decide,λe=>?_⟩;split at e
  .assumption
  .split at e<;>omega
 .have i:(Z a:G)=(Z d:G):=vX i;rw[show sk a d=CO a d (Z a)by rw[sk,w O]];refine du<|N J ?_;refine au<|a8 (α:=Y) (λk=>⟨[(0,I aw a),(1,I aw d),(5,R<|(k:G)-1)],[],4,[]⟩) (λk=>k<=Z a/\CO a d (Z a)=CO a d k) (λk=>k) (Z a) ⟨aO _,J⟩ aM ?_;rintro k ⟨o,hc⟩;refine du (N J<|al J (λf=>?_)<|λf=>?_)
  .have f:0<k:=by have f:(k:G)-1>=0:=aU f;omega
   obtain⟨j,rfl⟩:∃j,k=j+1:=⟨k-1,O⟩;have l:af (((j+1:Y):G)-1)=j:=O;refine aD<|du<|au<|N J (hp:=aF)<|al J (λg=>?_)<|λg=>cP<|bw ?_
   .have g:E a (af<|((j+1:Y):G)-1) 0≠E d (af<|((j+1:Y):G)-1) 0:=xA g;rw[l]at g;refine N J (hp:=aF)<|bL ?_;repeat(first|refine cK ?_|refine kX ?_|refine lI ?_)
    refine eJ J ?_;show cB (decide<|List.getD a (af<|((j+1:Y):G)-1) 0<E d (af<|((j+1:Y):G)-1) 0)=_;rw[l,hc,CO];refine be cB<|decide_eq_decide.2 ?_;unfold pU;split
    .rw[b D];exact⟨λ_=>D,λ_=>by assumption⟩
    .rw[b (O:E a j 0>E d j 0),b D];exact⟨λe=>O,λe=>O⟩
   .have g:E a (af<|((j+1:Y):G)-1) 0=E d (af<|((j+1:Y):G)-1) 0:=vX g;rw[l]at g;refine rt J (hp:=aF) (aT j ⟨O,?_⟩ s8<|wk ⟨sR J,sR J,sE J ?_,h⟩ h)
    .rw[hc,CO,w];unfold pU;rw[w O,w O];decide
    .exact je (O:((j+1:Y):G)-1-1=(j:G)-1)
  .have f:k=0:=by have f:¬(k:G)-1>=0:=a6 f;omega
   subst f;rw[hc];exact a7<|aL<|N J<|cw J
section
variable{α:Type}(d:α)(lt:α->Bool)(x:α)(l:V α)
def ji:Y->Bool×V α
 |0=>(ah,[])
 |i+1=>if(!(ji i).1&&lt (E l i d))=ae then(ae,(ji i).2++[x]++[E l i d])else((ji i).1,(ji i).2++[E l i d])
def VF(i:Y):ji d lt x l (i+1)=if(!(ji d lt x l i).1&&lt (E l i d))=ae then(ae,(ji d lt x l i).2++[x]++[E l i d])else((ji d lt x l i).1,(ji d lt x l i).2++[E l i d]):=rfl
def sp:V α:=if(ji d lt x l<|Z l).1=ae then(ji d lt x l<|Z l).2 else(ji d lt x l<|Z l).2++[x]
def VG:∀i,(ji d lt x l i).2.length=i+(if(ji d lt x l i).1=ae then 1 else 0)
 |0=>rfl
 |i+1=>by
  have:=VG i;rw[ji];cases h:(ji d lt x l i).1
  .rw[h]at this;simp only[DW,Bool.true_and];split
   .simp at this⊢;omega
   .simp[h]at this⊢;omega
  .rw[h]at this;simp only[N2,Bool.false_and,iB,bN];simp[h]at this⊢;omega
def afs:∀i,i<=Z l->(ji d lt x l i).2.Perm (if(ji d lt x l i).1=ae then x::c i l else c i l)
 |0,_=>by rw[ji];simp
 |i+1,g=>by
  have a:=afs i O;have f:c (i+1) l=c i l++[E l i d]:=by rw[sH,aK,cO O];rfl
  rw[ji,f];cases h:(ji d lt x l i).1
  .rw[h]at a;simp only[DW,Bool.true_and];simp only[iB,bN]at a;split
   .simp only[cj];refine(List.Perm.append_right _<|a.append_right [x]).trans ?_;rw[l7];exact(List.perm_append_comm_assoc _ _ _)
   .simp only[h,iB,bN];exact a.append_right _
  .rw[h]at a;simp only[N2,Bool.false_and,iB,bN];simp only[cj]at a;simp only[h,cj];exact a.append_right _
def afu:(sp d lt x l).Perm (x::l):=by
 have h:=afs d lt x l (Z l)<|aO _;unfold sp;rw[fR]at h;split
 .rename_i e;rwa[e]at h
 .rename_i e;rw[Bool.not_eq_true]at e;rw[e]at h;simp only[iB,bN]at h;exact(h.append_right [x]).trans aq9
end
def aq'(l:V (V G×G))(x:V G×G)(W:Z l<=1000)(B:Z x.1<=1000)(H:∀y∈l,Z y.1<=1000):r q 208 [I MT l,.a<|av MT x] (I MT<|sp ([],0) (λy=>decide<|sk x.1 y.1<0) x l):=by
 refine aI Tryz.func208 ?_;have o:=VG ([],0) (λy=>decide<|sk x.1 y.1<0) x l;have C:=VF ([],0) (λy=>decide<|sk x.1 y.1<0) x l;generalize u:ji ([],0) (λy=>decide<|sk x.1 y.1<0) x l=T at*;refine N J<|F<|fT MT [] J J (z J<|N J<|j<|N J ?_);refine au<|a8 (α:=Y) (λi=>⟨[(0,I MT l),(3,.c<|.P 0 0),(5,.c<|.X 1000000),(6,cB (T i).1),(7,R i)],[(0,.box 178 0<|av MT x),(1000000,.vec 178 MT (T i).2)],4,[]⟩) (λi=>i<=Z l) (λi=>Z l-i) 0 (aY _) (by rw[<-u];exact(wk (bO J) ⟨bE J J,bR J,h⟩)) ?_;intro i b;have p:=o i;have K:(T i).2.length<=1001:=by split at p<;>omega
 refine j<|N J<|al J (λh1=>?_)<|λh1=>?_
 .have h1:i<Z l:=by have h1:(i:G)<(Z l:G):=aU h1;omega
  have L:af ((i:G))=i:=bY i;have v:(E l (af<|(i:G))<|ET.dE MT)=E l i ([],0):=be (λM=>E l M ([],0)) L;have Q:=H (E l i ([],0)) O9;have A:=aq8 x.1 (E l i ([],0)).1 B Q;have f:=C i;have s:=o<|i+1;rw[<-v]at*;obtain⟨m,g⟩:∃m,m=if(!(T i).1&&decide (sk x.1 (E l (af<|(i:G))<|ET.dE MT).1<0))=ae then(T i).2++[x]else(T i).2:=⟨_,J⟩
  have t:(T<|i+1).2=m++[E l (af<|(i:G)) (ET.dE MT)]:=by rw[f,g];split<;>rfl
  have U:Z m<=1001:=by rw[t,iq,s3]at s;split at s<;>omega
  refine aD<|j<|au ?_;refine jH ⟨[(0,I MT l),(3,.c<|.P 0 0),(5,.c<|.X 1000000),(6,cB (T<|i+1).1),(7,R i)],[(0,.box 178 0<|av MT x),(1000000,.vec 178 MT m)],8,[]⟩ ?_<|λn=>F<|rg 17 J J (λd=>?_)<|λd=>?_
  .refine cu (rl MT [_] J J (ra J J J J J J J J J ?_ ?_<|z J ?_) (hp:=aF))
   .show(_+1+(_+1)/4+192)*32<=_;omega
   .show(_+1)*2<=_;omega
   refine bw<|rt J<|aT (i+1) h1 wm<|Wk.trans (wk (st':=⟨[(0,I MT l),(3,.c<|.P 0 0),(5,.c<|.X 8006000),(6,cB (T<|i+1).1),(7,R ((i+1:Y):G))],[(0,.box 178 0<|av MT x),(8006000,.vec 178 MT (T<|i+1).2)],16,[]⟩) (bO J) ⟨bR J,bE J ?_,h⟩)<|Wk.trans (fU 1000000 8006000 J J J) aM;rw[t]
  .have d:(T i).1=ah:=by
    cases e:(T i).1
    .rfl
    .rw[e]at d;cases d
   refine jV J J J J J A (z J<|al J (λk=>?_)<|λk=>?_) (hp:=aF)
   .have k:decide (sk x.1 (E l (af<|(i:G))<|ET.dE MT).1<0)=ae:=k;rw[d,k]at g;rw[d,k]at f;have g:m=(T i).2++[x]:=g;refine F (rl MT [x] J J (ra J J J J J J J J J ?_ ?_<|z J ?_))
    .show(_+1+(_+1)/4+192)*32<=_;omega
    .show(_+1)*2<=_;omega
    refine rt J<|dB n<|Wk.trans (wk (st':=⟨[(0,I MT l),(3,.c<|.P 0 0),(5,.c<|.X 6003000),(6,cB (T<|i+1).1),(7,R i)],[(0,.box 178 0<|av MT x),(6003000,.vec 178 MT m)],8,[]⟩) ⟨sR J,sR J,sR J,sE J ?_,sR J,h⟩ ⟨bR J,bE J ?_,h⟩)<|Wk.trans (fU 1000000 6003000 J J J) aM
    .rw[f];rfl
    .rw[g]
   .have k:decide (sk x.1 (E l (af<|(i:G))<|ET.dE MT).1<0)=ah:=k;rw[d,k]at g;rw[d,k]at f;have g:m=(T i).2:=g;refine cP (dB n<|wk ⟨sR J,sR J,sR J,sE J ?_,sR J,h⟩ ⟨bR J,bE J ?_,h⟩)
    .rw[f,d];rfl
    .rw[g]
  .have d:(T i).1=ae:=by
    cases e:(T i).1
    .rw[e]at d;cases d
    .rfl
   rw[d]at g;rw[d]at f;have g:m=(T i).2:=g;refine z J<|al J (λk=>by cases k)<|λk=>cP<|dB n<|wk ⟨sR J,sR J,sR J,sE J ?_,sR J,h⟩ ⟨bR J,bE J ?_,h⟩
   .rw[f,d];rfl
   .rw[g]
 .have h1:i=Z l:=by have h1:¬(i:G)<(Z l:G):=a6 h1;omega
  subst h1;refine a7<|aL<|j<|N J<|al J (λd=>?_)<|λd=>?_
  .have d:(T<|Z l).1=ah:=by
    cases e:(T<|Z l).1
    .rfl
    .rw[e]at d;cases d
   refine cu<|rl MT [x] J J (ra J J J J J J J J J ?_ ?_<|z J ?_)
   .show(_+1+(_+1)/4+192)*32<=_;omega
   .show(_+1)*2<=_;omega
   refine aL<|cY 6003000 J J J<|N J<|bU J ?_;unfold sp;rw[u,d];rfl
  .have d:(T<|Z l).1=ae:=by
    cases e:(T<|Z l).1
    .rw[e]at d;cases d
    .rfl
   refine aD<|cY 1000000 J J J<|N J<|bU J ?_;unfold sp;rw[u,d];rfl
section
variable{p:Y}(H:br p)
include H in
def VH:∀(Q:Y)(f:V G),Z f<Q->Z f<=200->Mon p f->∃T,so p f T/\r q 206 [I aw f,cU p] (I aw T)
 |0,_,h,_,_=>by omega
 |Q+1,f,hN,lf,d=>by
  have JR:=H.hp.1;have x:=H.le;by_cases W:Z f<=1
  .refine⟨f,so.one H d W,?_⟩;refine DS afv J J J J J D ?_;refine N J<|j<|N J<|al J (λh=>N J<|bL<|cK<|ig cv J<|bl.refl _)<|λh=>?_;exfalso;have h:¬(Z f:G)<=1:=a6 h;omega
  have k:=afi f p O O x d.c.1;have i:bA p (aN<|jM p f):=k7 H.pos<|JI O f;have hDl:Z (aN<|jM p f)<=200:=by have:=py<|jM p f;rw[JH]at this;omega
  have y:(fx (aN<|jM p f):Fx p)=bC (fx f):=by rw[Ff,Vf]
  have l:aN (jM p f)=[]->bC (fx f:Fx p)=0:=aqc H;generalize aN (jM p f)=n at*;by_cases t:n=[]
  .obtain⟨e1,e2,e3,e4⟩:=aet H d O<|l t;obtain⟨T,r1,r2⟩:=VH Q _ O O e1;refine⟨T,r1.root H d O<|l t,?_⟩;have A:Z (mV p f<|jD p<|Z f)=jD p (Z f):=by simp[mV]
   have hk:∀a,a<jD p (Z f)↔a*p<Z f:=λa=>by unfold jD;rw[<-Nat.add_one_le_iff,Nat.le_div_iff_mul_le O,O'];omega
   have B:∀a,a<jD p (Z f)->E (mV p f<|jD p<|Z f) a 0=E f (a*p) 0:=λa hj=>by unfold mV;rw[aK,jh,k6 hj];rfl
   rw[A]at e3 e4;generalize mV p f (jD p<|Z f)=L at*;generalize jD p (Z f)=m at*;subst t;refine DS afv J J J J J D ?_;refine N J<|j<|N J<|al J (λh=>?_)<|λh=>cP<|aL ?_
   .exfalso;have h:(Z f:G)<=1:=aU h;omega
   refine F<|rc J J k<|z J<|j<|N J<|al J (λ_=>?_)<|λh=>fE;refine F<|fT aw [] J J (z J<|j<|N J ?_);refine au<|a8 (α:=Y) (λa=>⟨[(0,I aw f),(1,cU p),(6,.c<|.X 4000000),(7,R ((a*p:Y):G))],[(4000000,.vec 150 aw<|c a L)],6,[]⟩) (λa=>a<=m) (λa=>m-a) 0 (aY _) (by rw[sU];exact aM) ?_;intro a hj;have hl:(c a L).length=a:=b8;refine j<|N J<|al J (λh=>?_)<|λh=>?_
   .have h:a*p<Z f:=by have h:((a*p:Y):G)<(Z f:G):=aU h;omega
    have C:=(hk a).2 h;have ei:af (((a*p:Y):G))=a*p:=bY _;refine cP<|aL<|j<|au<|cu<|rl aw [_] J J (ra J J J J J J J J J ?_ ?_<|z J ?_) (hp:=aF)
    .show(_+1+(_+1)/4+192)*8<=_;omega
    .show(_+1)*1<=_;omega
    refine eE<|aL<|rt J (hp:=aF)<|aT (a+1) C (O:m-(a+1)<m-a)<|Wk.trans (wk (st':=⟨[(0,I aw f),(1,cU p),(6,.c<|.X 7006000),(7,R (((a+1)*p:Y):G))],[(7006000,.vec 150 aw<|c (a+1) L)],16,[]⟩) ⟨sR J,sR J,sR J,sE J ?_,aX⟩ ⟨bE J ?_,aX⟩)<|Wk.trans (fU 4000000 7006000 J J J) aM
    .refine je (show((a*p:Y):G)+(p:G)=(((a+1)*p:Y):G)from ?_);rw[O'];omega
    .refine be (aG.vec 150 aw) ?_;rw[rU _ a O,B a C,ei]
   .have h:¬a*p<Z f:=by have h:¬((a*p:Y):G)<(Z f:G):=a6 h;omega
    have b:a=m:=by have:=mt (hk a).1 h;omega
    subst b;rw[iY O];exact nN<|rA<|ou<|nO<|aL<|cY 4000000 J J J<|F<|rc J J r2<|z J<|bL<|cK<|ig cv J<|bl.refl _
  .obtain⟨u,m2,m3,_⟩:=zY H d.c i d.ne;obtain⟨q1,q2,q3,q4⟩:=tC H d u m2;have Ao:Z (gy p f n)<Z f:=by
    have w:(fx n:Fx p)≠0:=λe=>t<|uM i (rV H.pos)<|e.trans kF.symm
    have W:=jJ H m3 w;have h3:=Nj H (fx f:Fx p);rw[<-y,dc d.c]at h3;rw[dc u.c]at W;omega
   obtain⟨S,v,s2⟩:=VH Q (gy p f n) O O u;obtain⟨_,t2⟩:=so.step H d O i y t J v J;have sf:=v.len;refine⟨_,t2,?_⟩;have K:=EX p H.hp H.le f n O O d.c i;have M:=zo p H.hp H.le f (gy p f n) O O d.c u.c u.ne;rw[v3 q1.c.2]at M;generalize gy p f n=g at*;generalize (aS f g p).1=P at*;obtain⟨U,n2,n3,_⟩:=zY H q1.c v.aJ.c q1.ne;obtain⟨u1,u2,u3,u4⟩:=tC H v.aJ U n3;have s:=EX p H.hp H.le P S O O q1.c v.aJ.c;have o:=zo p H.hp H.le S (gy p P S) O O v.aJ.c U.c U.ne;rw[v3 u1.c.2]at o;generalize gy p P S=dQ at*;have pc:=U.pos;have pg:=u.pos;have rI:=uz P (aS S dQ p).1 p O O O O q1.c.1 u1.c.1;refine DS afv J J J J J D ?_;refine N J<|j<|N J<|al J (λh=>?_)<|λh=>cP<|aL ?_
   .exfalso;have h:(Z f:G)<=1:=aU h;omega
   refine F<|rc J J k<|z J<|j<|N J<|al J (λh=>?_)<|λ_=>cP<|aL ?_
   .exfalso;have h:(Z n:G)=0:=eq_of_beq h;exact t<|eT O
   exact F<|rc J J K<|z J<|F<|rc J J M<|z J<|F<|rc J J s2<|z J<|F<|rc J J s<|rc J J o<|rc J J rI<|z J<|bL<|ig cv J<|bl.refl _
def afw(m:Y)(g:V G):∀(a:V (V G))(x:V G×V (V G×G)),gW p m (a++[g]) x=((pull p g ((gW p m a x).1.length+1) (gW p m a x).1 0).1,(gW p m a x).2++[(g,(((pull p g ((gW p m a x).1.length+1) (gW p m a x).1 0).2:Y):G)*(m:G))])
 |[],x=>rfl
 |d::a,x=>by rw[m7,gW,afw m g a,gW]
noncomputable def jv(p:Y)(M:V G)(l:V (V G)):Y->V G×V (V G×G)
 |0=>(M,[])
 |i+1=>((pull p (l.getD i []) ((jv p M l i).1.length+1) (jv p M l i).1 0).1,sp ([],0) (λy=>decide<|sk (l.getD i []) y.1<0) (l.getD i [],(((pull p (l.getD i []) ((jv p M l i).1.length+1) (jv p M l i).1 0).2:Y):G)) (jv p M l i).2)
def VI(M:V G)(l:V (V G)):∀i,i<=Z l->(jv p M l i).1=(gW p 1 (c i l) (M,[])).1/\(jv p M l i).2.Perm (gW p 1 (c i l) (M,[])).2
 |0,_=>⟨J,List.Perm.refl _⟩
 |i+1,f=>by
  let ⟨d,h2⟩:=VI M l i O;have a:c (i+1) l=c i l++[l.getD i []]:=by rw[sH,aK,cO O];rfl
  rw[a,afw,jv,d];refine⟨J,(afu _ _ _ _).trans ?_⟩;have e:∀z:G,z*((1:Y):G)=z:=λz=>ns z
  rw[e];exact(List.Perm.cons _ h2).trans<|aq9 (l₁:=[_])
def afx(m:Y):∀(d:V (V G))(x:V G×V (V G×G)),∀y∈(gW p m d x).2,y∈x.2\/y.1∈d
 |[],x,y,f=> .inl f
 |g::d,x,y,f=>by
  rw[gW]at f;rcases afx m d _ y f with a|a
  .rcases bg.1 a with a|a
   .exact .inl a
   .rw[iK.1 a];exact .inr az
  .exact .inr (by simp[a])
def CM.take{f:V G}{a:V (V G)}(d:CM p f a)(i:Y):CM p f (c i a):=
 ⟨λg k=>d.ok g<|vi k,d.ds.sublist (List.take_sublist i a)⟩
include H in
def ara(pm:p<=2147483647){a:V G}(la:Z a<=200)(ha:∀i,0<=E a i 0)(h0:aN (md p a)≠[])(hd:∀d,2*d<Z (aN<|md p a)->2*p^d<=18446744073709551616):∃L,CN p (fx<|lR p<|aN<|md p a) L/\r q 175 [I aw a,cU p] (.t [(ah,[.S MT L]),(ah,[.I .i64 0])]):=by
 have JR:=H.hp.1;have D:=xE a p O O O ha;have C:bA p (aN<|md p a):=k7 H.pos<|BP H.pos a;have hal:Z (aN<|md p a)<=200:=by have:=py<|md p a;rw[xD]at this;omega
 have Hi:=aam p H.hp H.le (aN<|md p a) O C;let ⟨m1,m2,_⟩:=NT H C h0;generalize aN (md p a)=A at*;generalize lR p A=M at*;let ⟨v,r1,r2⟩:=VH H _ M (dK _) O m1;have Ip:=r1.len;have hsq:=aq7 H r1.aJ r1.lV O<|λd hd'=>hd d O;have f:=afr H (F:=v) (λd hd'=>hd d O) (Z v) ⟨v,[0,1],1,[]⟩ (oe.start H r1.aJ r1.lV O) (O:Z v<1+Z v);generalize yi H (Z v) ⟨v,[0,1],1,[]⟩=l at*;have K:=aqW H m1 r1 f;have hpt:=afc H r1 f;let ⟨f1,f2⟩:=VI (p:=p) M l (Z l)<|aO _;rw[fR]at f1 f2;refine⟨(jv p M l<|Z l).2,K.perm f2,?_⟩;have ZT:Z l<=200:=by
  let ⟨h3,h4⟩:=Vc H (l:=l) λg P=>⟨(f.parts g P).1,(f.parts g P).2.1⟩
  rw[f.prod,dc r1.aJ.c]at h4;omega
 have hI:=λi=>Vi H (c i l) M [] (u5.start m1) (hpt.take i)
 refine aI Tryz.func175 ?_;refine N J<|j<|bt J J (Z' p H.hp pm) J<|al J (λh=>fE)<|λ_=>aD ?_;refine F<|rc J J D<|rc J J Hi<|z J<|j<|N J<|al J (λh=>?_)<|λ_=>aD ?_
 .exfalso;have h:(Z M:G)=0:=eq_of_beq h;have:=m1.pos;omega
 refine F<|rc J J r2<|rc J J hsq<|z J<|F<|rl MT [] J J (z J<|j<|N J ?_);refine au<|a8 (α:=Y) (λi=>⟨[(1,cU p),(6,I aw (jv p M l i).1),(7,I (.sl aw) l),(8,I MT (jv p M l i).2),(9,R i)],[],8,[]⟩) (λi=>i<=Z l) (λi=>Z l-i) 0 (aY _) aM ?_;intro i hi;let ⟨k1,k2⟩:=VI (p:=p) M l i hi;let ⟨i1,i2,_⟩:=hI i;rw[<-k1]at i1 i2;let ⟨i3,_,_⟩:=i1.bounds H;have i3:(gW p 1 (c i l) (M,[])).2.length+1<=Z M:=by rwa[dc m1.c]at i3
 have hq:=k2.length_eq;have i2:(jv p M l i).1.length<=Z M:=i2;refine j<|N J<|al J (λh=>?_)<|λh=>?_
 .have h:i<Z l:=by have h:(i:G)<(Z l:G):=aU h;omega
  have ei:af ((i:G))=i:=bY i;have Bh:(E l (af<|(i:G))<|ET.dE<|.sl aw)=l.getD i []:=be (λiC=>l.getD iC []) ei;have s:l.getD i []∈l:=TD;let ⟨x,g2,_⟩:=f.parts _ s;have Q:∀g∈l,Z g<=200:=λg P=>by have h3:=jJ H (OU p P) (by rw[f.prod];exact r1.aJ.kH H);rw[f.prod,dc r1.aJ.c,dc (f.parts g P).1.c]at h3;omega
  have Ao:=Q _ s;have U:∀y∈(jv p M l i).2,Z y.1<=1000:=λy hy=>by
   rcases afx 1 (c i l) (M,[]) y (k2.mem_iff.1 hy)with e|e
   .cases e
   .have:=Q _<|vi e;omega
  have hF1:(jv p M l<|i+1).1=(pull p (l.getD i []) ((jv p M l i).1.length+1) (jv p M l i).1 0).1:=rfl;have hF2:(jv p M l<|i+1).2=sp ([],0) (λy=>decide<|sk (l.getD i []) y.1<0) (l.getD i [],(((pull p (l.getD i []) ((jv p M l i).1.length+1) (jv p M l i).1 0).2:Y):G)) (jv p M l i).2:=rfl;have m:=λn:Y=>aq' (jv p M l i).2 (l.getD i [],(n:G)) O (by show(l.getD i []).length<=_;omega) U
  have hm:=i1.aJ;generalize hT:pull p (l.getD i []) ((jv p M l i).1.length+1) (jv p M l i).1 0=T at*;rw[<-Bh]at*;refine aD<|j<|au<|N J<|j ?_;refine au<|a8 (α:=Y×V G×Y) (λy=>⟨[(1,cU p),(6,I aw y.2.1),(7,I (.sl aw) l),(8,I MT (jv p M l i).2),(9,R i),(10,R y.2.2)],[],10,[]⟩) (λy=>pull p (E l (af<|(i:G))<|ET.dE<|.sl aw) y.1 y.2.1 y.2.2=T/\Z y.2.1<y.1/\Mon p y.2.1/\y.2.2+Z y.2.1<=200) (λy=>y.1) ((jv p M l i).1.length+1,(jv p M l i).1,0) ⟨hT,dK _,hm,by show 0+(jv p M l i).1.length<=_;omega⟩ aM ?_;rintro⟨k,u,n⟩ ⟨B,b2,W,b4⟩;simp only at B b2 W b4;obtain⟨k,rfl⟩:∃k',k=k'+1:=⟨k-1,O⟩;rw[pull]at B;have UD:=te p H.hp H.le u _ O O W.c x.c x.ne;refine j<|F<|rc J J UD (z J<|al J (λo=>?_)<|λo=>?_) (hp:=aF)
  .have o:(aS u (E l (af<|(i:G))<|ET.dE<|.sl aw) p).2=[]:=eT (by have:=eq_of_beq o;omega);rw[b o]at B;have FM:=(NR H W.c x.c x.ne).1 o;let ⟨q1,q2,q3,q4⟩:=tC H W x FM;have X:=zo p H.hp H.le u _ O O W.c x.c x.ne;rw[v3 q1.c.2]at X;refine aD (au<|F<|rc J J X (z J<|rt J (hp:=aF)<|eE<|aT (k,(aS u (E l (af<|(i:G))<|ET.dE<|.sl aw) p).1,n+1) ⟨B,?_,q1,?_⟩ (dK k) aM) (hp:=aF))
   .show(aS u (E l (af<|(i:G))<|ET.dE<|.sl aw) p).1.length<k;omega
   .show n+1+(aS u (E l (af<|(i:G))<|ET.dE<|.sl aw) p).1.length<=200;omega
  .have o:(aS u (E l (af<|(i:G))<|ET.dE<|.sl aw) p).2≠[]:=λe=>by have o:¬((aS u (E l (af<|(i:G))<|ET.dE<|.sl aw) p).2.length:G)=0:=nV o;rw[e]at o;exact o J
   rw[w o]at B;subst B;have m:=m n;rw[<-hF2]at m;refine a7<|aL ?_;refine cu<|rc J J m (z J<|bw<|rt J (hp:=aF)<|aT (i+1) h wm<|wk ⟨sR J,sE J ?_,sR J,sR J,sR J,aX⟩ aX) (hp:=aF);rw[hF1]
 .have h:i=Z l:=by have h:¬(i:G)<(Z l:G):=a6 h;omega
  subst h;exact a7<|aL<|N J<|cw J
end
def lv(a d:V G):V G:=(List.range<|max (Z a)<|Z d).map λi=>E a i 0-E d i 0
def afy a d:Z (lv a d)=max (Z a) (Z d):=by simp[lv]
def F3 a d i:E (lv a d) i 0=E a i 0-E d i 0:=by
 by_cases h:i<max (Z a) (Z d)
 .unfold lv;rw[aK,jh,k6 h];rfl
 .rw[fp _ (by rw[afy];omega),fp a O,fp d O];rfl
def afz a d u(s:u<=100000)(t:Z a<=1000)(v:Z d<=1000)(m:∀i,aH u (E a i 0))(n:∀i,aH u (E d i 0)):r q 257 [I .z a,I .z d] (I .z<|aN<|lv a d):=by
 refine aI Tryz.func257 ?_;have x:=afy a d;have o:=F3 a d;generalize hM:max (Z a) (Z d)=M at*;have p:M<=1000:=O;generalize lv a d=L at*;refine N J<|F<|fT .z [] J J (z J<|j<|N J ?_);refine au<|a8 (α:=Y) (λi=>⟨[(0,I .z a),(1,I .z d),(5,.c<|.X 1000000),(6,R i)],[(1000000,.vec 42 .z<|c i L)],3,[]⟩) (λi=>i<=M) (λi=>M-i) 0 (aY _) aM ?_;intro i y;have A:(c i L).length=i:=b8;by_cases k:i<M
 .refine jH ⟨[(0,I .z a),(1,I .z d),(5,.c<|.X 1000000),(6,R i)],[(1000000,.vec 42 .z<|c i L)],4,[]⟩ ?_ (λg=>F<|rg 12 J J (λf=>z J<|al J (λ_=>cP<|dB g aM)<|λh2=>mM)<|λf=>z J<|al J (λ_=>cP<|dB g aM)<|λh2=>?_)
  .refine j<|au<|cu ?_;refine rc J J (HY a i)<|rc J J (HY d i)<|rc J J (R2 (E a i 0) (E d i 0) ((m i).sm O)<|(n i).sm O) ?_;refine rl .z [E a i 0-E d i 0] J J (ra J J J J J J J J J ?_ ?_<|z J ?_)
   .show(_+1+(_+1)/4+192)*32<=_;omega
   .show(_+1)*2<=_;omega
   refine bw<|rt J<|aT (i+1) k xp<|Wk.trans (wk (st':=⟨[(0,I .z a),(1,I .z d),(5,.c<|.X 4009000),(6,R ((i+1:Y):G))],[(4009000,.vec 42 .z<|c (i+1) L)],8,[]⟩) (bO J) ⟨bE J ?_,h⟩)<|Wk.trans (fU 1000000 4009000 J J J) aM;rw[rU _ i O,o i]
  .exfalso;have f:¬(i:G)<(Z a:G):=a6 f;have h2:¬(i:G)<(Z d:G):=a6 h2;omega
 .have l:i=M:=by omega
  subst l;rw[iY O];refine j<|F<|rg 12 J J (λf=>?_)<|λf=>?_
  .exfalso;have f:(i:G)<(Z a:G):=aU f;omega
  .refine z J (al J (λh2=>?_)<|λh2=>?_)
   .exfalso;have h2:(i:G)<(Z d:G):=aU h2;omega
   .exact a7<|aL<|cY 1000000 J J J<|bt J J (Md _) J<|cw J
def kh(p:G)(l:V (V G)):Y->V G
 |0=>[1]
 |i+1=>cT (kh p l i) (l.getD i []) p
section
variable{p:Y}(H:br p)
include H
def afA:bA p [1]:=⟨EV O Cj,.inr (D:(1:G)≠0)⟩
def arh:Mon p [1]:=⟨afA H,az,J⟩
def JS{l:V (V G)}(f:∀g∈l,Mon p g/\1<=Z g):∀i,i<=Z l->Mon p (kh p l i)/\(fx (kh p l i):Fx p)=iw p (c i l)/\Z (kh p l i)=1+dD (c i l)
 |0,_=>⟨arh H,by rw[kh,Ch];rfl,J⟩
 |i+1,o=>by
  let ⟨k,h2,s⟩:=JS f i O;have a:l.getD i []∈l:=by rw[aK,cO O];exact sF _
  let ⟨m,g2⟩:=f _ a;let ⟨t1,t2⟩:=VA H k m;have d:c (i+1) l=c i l++[l.getD i []]:=by rw[sH,aK,cO O];rfl
  have n:dD (c i l++[l.getD i []])=dD (c i l)+((l.getD i []).length-1):=by rw[OV];rfl
  rw[d,kh];refine⟨t1,?_,?_⟩
  .rw[wu,h2,JG,iw,iw,mul_one]
  .rw[n];omega
theorem afB(l:V (V G))(i:Y):dD (c i l)<=dD l:=by
 conv=>rhs;rw[<-sI i l]
 rw[OV];omega
def ari{l:V (V G)}(f:∀g∈l,Mon p g/\1<=Z g)(y:dD l<=900)(A:Z l<=1000):r q 215 [I (.sl aw) l,cU p] (I aw<|kh p l<|Z l):=by
 refine aI Tryz.func215 ?_;have s:=H.hp.1;have m:=H.le;refine N J<|F<|rl aw [1] J J (z J<|j<|N J ?_);refine au<|a8 (α:=Y) (λi=>⟨[(0,I (.sl aw) l),(1,cU p),(5,I aw<|kh p l i),(6,R i)],[],4,[]⟩) (λi=>i<=Z l) (λi=>Z l-i) 0 (aY _) aM ?_;intro i t;refine j<|N J<|al J (λh1=>?_)<|λh1=>?_
 .have h1:i<Z l:=by have h1:(i:G)<(Z l:G):=aU h1;omega
  have u:af ((i:G))=i:=bY i;have k:(E l (af<|(i:G))<|ET.dE<|.sl aw)=l.getD i []:=be (λv=>l.getD v []) u;have d:l.getD i []∈l:=O9;let ⟨t1,_,t3⟩:=JS H f i t;have B:=afB H l i;have C:=afB H l<|i+1;let ⟨_,_,n⟩:=JS H f (i+1) h1;let ⟨o,g2⟩:=f _ d;let ⟨_,t7⟩:=VA H t1 o;have a:=uz (kh p l i) (l.getD i []) p O (by have n:Z (cT (kh p l i) (l.getD i []) p)=_:=n;omega) O O t1.c.1 o.c.1;have x:kh p l (i+1)=cT (kh p l i) (l.getD i []) p:=rfl;rw[<-x]at a;rw[<-k]at a;exact aD<|j<|au<|cu<|rc J J a (z J<|bw<|rt J (hp:=aF)<|aT (i+1) h1 wm aM) (hp:=aF)
 .have h1:i=Z l:=by have h1:¬(i:G)<(Z l:G):=a6 h1;omega
  subst h1;exact a7<|aL<|N J<|cw J
end
section
variable{p:Y}
structure u7 where
 a:V G
 b:V G
 t:V G
 n:V G
def u7.q(p:Y)(x:u7):V G:=aN (aS x.a x.b p).1
def u7.next(p:Y)(x:u7):u7:=⟨x.b,(aS x.a x.b p).2,x.n,aN<|gx x.t (cT (x.q p) x.n p) p⟩
def CS(p:Y):Y->u7->u7
 |0,x=>x
 |k+1,x=>if x.b=[]then x else CS p k (x.next p)
structure CT(p:Y)(g h:V G)(C:Y)(x:u7):Prop where
 ca:bA p x.a
 cb:bA p x.b
 ct:bA p x.t
 cn:bA p x.n
 a0:x.a≠[]
 l1:x.n.length+x.a.length<=C
 l2:x.t.length+x.b.length<=C
 d1:(fx g:Fx p)∣fx x.a-fx x.t*fx h
 d2:(fx g:Fx p)∣fx x.b-fx x.n*fx h
 co:Co (fx x.a:Fx p) (fx x.b)
variable(H:br p)
include H
def arj{a d:V G}(g:bA p a)(i:bA p d)(f:d≠[]):(fx a:Fx p)=fx (aS a d p).1*fx d+fx (aS a d p).2:=
 mk_eq.2 (mi H.hp H.le g.1 i f).1
def CT.next{g f:V G}{C:Y}{x:u7}(d:CT p g f C x)(i:x.b≠[]):CT p g f C (x.next p)/\(x.next p).b.length<Z x.b:=by
 let ⟨_,X,j,r,v,y⟩:=mi H.hp H.le d.ca.1 d.cb i;have s:=arj H d.ca d.cb i;have w:=d.l1;have z:=d.l2;have E:=bQ.2 i;have l:(fx (x.q p):Fx p)=fx (aS x.a x.b p).1:=Ff _;have K:Z (x.q p)<=Z x.a-(Z x.b-1):=by have:=py (aS x.a x.b p).1;rw[y]at this;exact this
 have m:=py<|gx x.t (cT (x.q p) x.n p) p;rw[MQ]at m;have L:Z (cT (x.q p) x.n p)+Z x.b<=C:=by
  by_cases e:x.q p=[]\/x.n=[]
  .unfold cT;rw[b e,nb];omega
  .have M:x.q p≠[]:=λk=>e (.inl k)
   have P:x.n≠[]:=λk=>e<|.inr k
   have:=v5 (x.q p) x.n p;have F:=bQ.2 M;have J:=bQ.2 P;omega
 have o:(fx (x.next p).n:Fx p)=fx x.t-fx (aS x.a x.b p).1*fx x.n:=by show(fx (aN<|gx x.t (cT (x.q p) x.n p) p):Fx p)=_;rw[TQ,wu,l]
 have Q:(fx (aS x.a x.b p).2:Fx p)=fx x.a-fx (aS x.a x.b p).1*fx x.b:=xL (by rw[add_comm,<-s]);refine⟨⟨d.cb,v d.ca,d.cn,k7 H.pos<|BQ H.pos _ _,i,?_,?_,d.d2,?_,?_⟩,by show(aS x.a x.b p).2.length<_;omega⟩
 .show Z (aN _)+Z x.b<=C;omega
 .show Z x.n+(aS x.a x.b p).2.length<=C;by_cases c:Z x.b<=Z x.a
  .omega
  .have:(aS x.a x.b p).2=x.a:=by unfold aS;rw[b O]
   rw[this];omega
 .show(fx g:Fx p)∣fx (aS x.a x.b p).2-fx (x.next p).n*fx f;rw[Q,o,sub_mul];have T:(fx g:Fx p)∣fx (aS x.a x.b p).1*fx x.b-fx (aS x.a x.b p).1*(fx x.n*fx f):=nA (fP _ _) d.d2;have W:=dvd_sub d.d1 T;have e:∀A B C D:Fx p,A-B-(C-D)=A-C-(B-D):=λA B C D=>by rw[sub_def (A-B),neg_sub,sub_def<|A-C,neg_sub,sub_def A,sub_def D,sub_def A,sub_def D];ac_rfl
  rw[e]at W;rwa[mul_assoc (fx (aS x.a x.b p).1)]
 .let ⟨U,u,e⟩:=d.co;refine⟨U*fx (aS x.a x.b p).1+u,U,?_⟩;show(U*fx (aS x.a x.b p).1+u)*fx x.b+U*fx (aS x.a x.b p).2=1;rw[<-e,s,add_mul,mul_add];ac_rfl
def afC{g d:V G}{C:Y}:∀(k:Y)(x:u7),CT p g d C x->Z x.b<k->CT p g d C (CS p k x)/\(CS p k x).b=[]
 |0,x,_,i=>by omega
 |k+1,x,f,i=>by
  rw[CS];split
  .rename_i a;exact⟨f,a⟩
  .rename_i a;let ⟨l,m⟩:=f.next H a;exact afC k _ l O
def ark{g d:V G}(m:Mon p g)(hh:Mon p d)(g2:2<=Z g)(lg:Z g<=100)(lh:d.length<=100)(M:Co (fx g:Fx p) (fx d)):∃t,bA p t/\Z t<Z g/\(fx g:Fx p)∣fx t*fx d-1/\r q 258 [I aw g,I aw d,cU p] (I aw t):=by
 have JR:=H.hp.1;have afD:=H.le;have I0:CT p g d 101 ⟨g,d,[],[1]⟩:=⟨m.c,hh.c,rV H.pos,afA H,m.ne,by show 1+Z g<=_;omega,by show 0+d.length<=_;omega,by rw[kF,zero_mul,sub_zero];exact dvd_refl _,by rw[Ch,one_mul,sub_self];exact dvd_zero _,M⟩;let ⟨E,e0⟩:=afC H (d.length+1) ⟨g,d,[],[1]⟩ I0<|dK _;generalize hX:CS p (d.length+1) ⟨g,d,[],[1]⟩=X at*;have hu:sz (fx X.a:Fx p)=1:=by let ⟨U,CU,e⟩:=E.co;rw[e0,kF,mul_zero,add_zero]at e;exact xN H e
 rw[dc E.ca]at hu;obtain⟨c,L⟩:∃c,X.a=[c]:=by
  match hxa:X.a,hu with
  |[c],_=>exact⟨c,J⟩
 have l:0<=c/\c<p:=by have:=E.ca.1 0;rw[L]at this;exact this
 have s:c≠0:=by
  rcases E.ca.2 with e|e
  .exact absurd e E.a0
  .rw[L]at e;exact e
 have u:=Sx c p l s O O;have P:=ES H.hp H.le l.1 l.2 s;have Q:((jg (af c) (af ((p:Y):G)):Y):G)<p:=by rw[Z7 _ _ (by rw[bY];omega) (by rw[bY];omega),bY];have:=fS (af c^(p-2)) (O:0<p);omega
 generalize jg (af c) (af ((p:Y):G))=v at*;have l2:=E.l2;have T:=uz [(v:G)] X.t p az O O O (EV O Q) E.ct.1;have A:=v5 [(v:G)] X.t p;have W:=te p H.hp H.le (cT [(v:G)] X.t p) g (by simp at A;omega) O (nv H.pos _ _) m.c m.ne;let ⟨r1,r2,r3⟩:=wJ H (nv H.pos [(v:G)] X.t) m.c m.ne;refine⟨_,r1,r2,?_,?_⟩
 .rw[wu,TP]at r3;have k1:(fx g:Fx p)∣fx (aS (cT [(v:G)] X.t p) g p).2*fx d-K v*fx X.t*fx d:=nA r3<|fP _ _;have k2:(fx g:Fx p)∣K v*fx X.a-K v*(fx X.t*fx d):=nA (fP _ _) E.d1;rw[L,TP,<-fa,Cf (a:=(v:G)*c) (b:=1) (by rw[eX,P,H.one]),<-mul_assoc]at k2;exact lT k1<|nz k2
 refine aI Tryz.func258 ?_;refine N J<|N J<|F<|rl aw [] J J (rl aw [1] J J (z J ?_));refine j<|au<|a8 (α:=Y×u7) (λy=>⟨[(0,I aw g),(1,I aw d),(2,cU p),(7,I aw y.2.a),(8,I aw y.2.b),(9,I aw y.2.t),(10,I aw y.2.n)],[],3,[]⟩) (λy=>CT p g d 101 y.2/\Z y.2.b<y.1/\CS p y.1 y.2=X) (λy=>y.1) (d.length+1,⟨g,d,[],[1]⟩) ⟨I0,dK _,hX⟩ aM ?_;rintro⟨k,x⟩ ⟨f,hk,o⟩;simp only at f hk o;obtain⟨k,rfl⟩:∃k',k=k'+1:=⟨k-1,O⟩;rw[CS]at o;have l1:=f.l1;have l2:=f.l2;refine j<|N J<|al J (λi=>?_)<|λi=>?_
 .have i:0<Z x.b:=by have i:(Z x.b:G)>0:=aU i;omega
  have B:x.b≠[]:=bQ.1 i;rw[w B]at o;let ⟨n1,n2⟩:=f.next H B;have C:=zo p H.hp H.le x.a x.b O O f.ca f.cb B;have D:aN (aS x.a x.b p).1=x.q p:=rfl;rw[D]at C;have hq:Z (x.q p)<=101:=by have:=py (aS x.a x.b p).1;rw[(mi H.hp H.le f.ca.1 f.cb B).2.2.2.2.2]at this;show Z (aN _)<=_;omega
  have R:bA p (x.q p):=k7 H.pos (mi H.hp H.le f.ca.1 f.cb B).2.1;have S:=uz (x.q p) x.n p O O O O R.1 f.cn.1;have hmc:=nv H.pos (x.q p) x.n;have A:=v5 (x.q p) x.n p;have VJ:=Ii x.t (cT (x.q p) x.n p) p O O O O f.ct.1 hmc.1;exact cP<|aL<|au<|F<|rc J J C<|z J<|N J<|N J<|F<|rc J J S<|rc J J VJ<|z J<|N J<|rt J<|eE<|aT (k,x.next p) ⟨n1,(O:(x.next p).b.length<k),o⟩ (dK k) aM
 .have i:x.b=[]:=eT (by have i:¬(Z x.b:G)>0:=a6 i;omega);rw[b i]at o;subst o;refine a7<|aL ?_;show TR _ _ _ ⟨_,_,_,_⟩ _;simp only[L];exact bt J J u J<|F<|rl aw [(v:G)] J J (rc J J T<|rc J J W<|z J<|cw J)
end
def nF(f a K:V G):V G:=aN<|lv f<|aN<|lN a K
def jO(a:G)(p:Y)(f d K:V G):V G:=(nF f d K).map λx=>x/a%(p:G)
def pZ(a:G)(p:Y)(f g t d K:V G):V G:=(aS (cT t (aN<|jO a p f d K) p) g p).2
def Au(a:G)(p:Y)(f g i t d K:V G):V G:=(aS (aN<|gx (aN<|jO a p f d K) (cT (pZ a p f g t d K) i p) p) g p).1
def fc(p:Y)(f g d t:V G):Y->V G×V G
 |0=>(g,d)
 |a+1=>(mq (fc p f g d t a).1 ((p:G)^(a+1))<|pZ ((p:G)^(a+1)) p f g t (fc p f g d t a).1 (fc p f g d t a).2,mq (fc p f g d t a).2 ((p:G)^(a+1))<|Au ((p:G)^(a+1)) p f g d t (fc p f g d t a).1 (fc p f g d t a).2)
structure JT(p:Y)(f g h t:V G):Prop where
 H:br p
 fm:aJ f
 hg:Mon p g
 hh:Mon p h
 g2:2<=g.length
 h2:2<=h.length
 lg:g.length<=100
 lh:h.length<=100
 fl:f.length+1=g.length+h.length
 pr:(fx f:Fx p)=fx g*fx h
 tc:bA p t
 tl:t.length<g.length
 ht:(fx g:Fx p)∣fx t*fx h-1
section
variable{p:Y}{f g h t:V G}(A:JT p f g h t)
include A
structure TwE(p:Y)(f g h t d K:V G)(a:Y):Prop where
 D:(nF f d K).length+2<=g.length+h.length
 e:bA p (aN<|jO ((p:G)^a) p f d K)
 el:(aN<|jO ((p:G)^a) p f d K).length+2<=g.length+h.length
 cg:bA p (pZ ((p:G)^a) p f g t d K)
 lg:(pZ ((p:G)^a) p f g t d K).length<g.length
 ck:bA p (Au ((p:G)^a) p f g h t d K)
 lk:(Au ((p:G)^a) p f g h t d K).length<h.length
 nx:u6 p f g h (mq d ((p:G)^a)<|pZ ((p:G)^a) p f g t d K) (mq K ((p:G)^a)<|Au ((p:G)^a) p f g h t d K) (a+1)
def JT.step{a K:V G}{d:Y}(k:u6 p f g h a K d)(j1:1<=d):TwE p f g h t a K d:=by
 have H:=A.H;have X:=H.hp.1;have b:(0:G)<(p:G)^d:=nH O;let ⟨w,hw⟩:=k.pr;have m:∀i,E (nF f a K) i 0=(p:G)^d*w i:=λi=>by
  have n:ps (nF f a K) i=ps f i-(ps a*ps K) i:=by show ps (aN<|lv f<|aN<|lN a K) i=_;rw[qJ,cH,F3,<-cH,<-cH,qJ,ab5 _ _ k.Gm.1 k.Km.1]
  rw[cH]at n;rw[n,hw,PS.eV,PS.fa];omega
 have y:Z (nF f a K)+2<=Z g+h.length:=by
  have l:=k.Gm.uO.mul k.Km.uO;have o:=A.fm.uO;have P:∀i,Z f-1<=i->E (nF f a K) i 0=0:=λi Q=>by
   have n:E (nF f a K) i 0=ps f i-(ps a*ps K) i:=by rw[m i,hw,PS.eV,PS.fa];omega
   have T:Z a-1+(K.length-1)=Z f-1:=by have:=k.Gl;have:=k.Kl;have:=A.fl;have:=A.g2;have:=A.h2;omega
   rw[T]at l;rcases aro Q with e|e
   .rw[n,o.z i e,l.z i e];rfl
   .rw[n,<-e,o.one,l.one];rfl
  have U:can (nF f a K):=Gt _;have:=A.fl;have:=A.g2;have:=A.h2;rcases U with e|e
  .rw[e];simp;omega
  .rcases qf (Z (nF f a K)-1) (Z f-1)with C|C
   .omega
   .exact absurd (P _ C) e
 have s:∀i,E (jO ((p:G)^d) p f a K) i 0=w i%p:=λi=>by show E ((nF f a K).map λx=>x/(p:G)^d%(p:G)) i 0=_;rw[getD_map (f:=λx=>x/(p:G)^d%(p:G)) VK,m i,VL _ O]
 have B:rp p (jO ((p:G)^d) p f a K):=λi=>by rw[s i];exact⟨iN _ O,iO _ O⟩
 have u:bA p (aN<|jO ((p:G)^d) p f a K):=k7 H.pos B;have v:Z (aN<|jO ((p:G)^d) p f a K)+2<=Z g+h.length:=by
  have c:=py<|jO ((p:G)^d) p f a K;have q:Z (jO ((p:G)^d) p f a K)=Z (nF f a K):=by simp[jO]
  omega
 let ⟨a1,a2,L,M,W⟩:=aqX H A.hg A.hh A.g2 u v A.ht;exact⟨y,u,v,a2,a1,L,M,k.step H j1 w hw (Cg.of λi=>by rw[qJ,cH,s i,mP]) a1 a2 M L W⟩
def JT.all:∀a,u6 p f g h (fc p f g h t a).1 (fc p f g h t a).2 (a+1)
 |0=>u6.start A.hg A.hh A.pr
 |a+1=>(A.step (JT.all a)<|O8<|aY a).nx
theorem afE{a d:V G}(i:G)(k:aJ a)(h:Z d<Z a):aN (xH a i d)=mq a i d:=by
 have e:xH a i d=mq a i d:=by unfold xH mq;rw[(O:max (Z a) (Z d)=Z a)]
 rw[e];exact(VB i k h).trim
def arp(hb:r q 258 [I aw g,I aw h,cU p] (I aw t)){k u s:Y}(k1:1<=k)(kk:k<=1000)(hu:∀i,aH u (E f i 0))(hw:aH s ((p:G)^k))(u9:u<=1000)(w9:s<=1000)(w1:1<=s):r q 214 [I .z f,I aw g,I aw h,cU p,R k] (.a [.S .z (fc p f g h t<|k-1).1,.S .z (fc p f g h t<|k-1).2]):=by
 have H:=A.H;have JR:=H.hp.1;have afD:=H.le;have lg:=A.lg;have lh:=A.lh;have g2:=A.g2;have h2:=A.h2;have fl:=A.fl;obtain⟨k,rfl⟩:∃n,k=n+1:=⟨k-1,O⟩;rw[eK];have B:∀{l:V G},Mon p l->∀i,0<=E l i 0/\E l i 0<4294967296:=λ{l} hq i=>by have:=hq.c.1 i;omega
 have M:=aav g O<|B A.hg;have Q:=aav h O<|B A.hh;rw[v3 A.hg.c.2]at M;rw[v3 A.hh.c.2]at Q;refine aI Tryz.func214 ?_;refine N J<|bt J J hb J<|F<|rc J J M<|rc J J Q<|z J ?_;refine F<|rc J J (jq p O O) (z J<|j<|N J ?_) (hp:=aF);refine au<|a8 (α:=Y) (λi=>⟨[(0,I .z f),(1,I aw g),(2,I aw h),(3,cU p),(4,R ((k+1:Y):G)),(10,.c<|.P 0 0),(11,I aw t),(12,.c<|.P 2005000 0),(13,.c<|.P 3003000 0),(14,R ((i+1:Y):G))],[(0,.box 208 0 [.V (.slice none 0 0),.V<|.slice none 0 0]),(2005000,.box 208 0 [.S .z (fc p f g h t i).1,.S .z (fc p f g h t i).2]),(3003000,.box 42 0<|av .z<|(p:G)^(i+1))],5,[]⟩) (λi=>i<=k) (λi=>k-i) 0 (aY _) (wk (bO J) ⟨bE J J,bE J J,bE J ?_,aX⟩) ?_
 .rw[fK,o8,kL];rfl
 intro i hi;have C:=A.all i;let ⟨e1,e2,e3,e4,e5,e6,e7,e8⟩:=A.step C<|O8<|aY i;have hq:(0:G)<(p:G)^(i+1):=nH O;have Ma:(p:G)^(i+1)<=(p:G)^(k+1):=by rw[<-uv,<-uv];exact NJ.2<|eQ O O
 have v:aH s ((p:G)^(i+1)):=by unfold aH at*;omega
 have hn1:(fc p f g h t<|i+1).1=mq (fc p f g h t i).1 ((p:G)^(i+1)) (pZ ((p:G)^(i+1)) p f g t (fc p f g h t i).1 (fc p f g h t i).2):=rfl;have hn2:(fc p f g h t<|i+1).2=mq (fc p f g h t i).2 ((p:G)^(i+1)) (Au ((p:G)^(i+1)) p f g h t (fc p f g h t i).1 (fc p f g h t i).2):=rfl;have hE:jO ((p:G)^(i+1)) p f (fc p f g h t i).1 (fc p f g h t i).2=(nF f (fc p f g h t i).1 (fc p f g h t i).2).map λx=>x/(p:G)^(i+1)%(p:G):=rfl
 have hGE:pZ ((p:G)^(i+1)) p f g t (fc p f g h t i).1 (fc p f g h t i).2=(aS (cT t (aN<|jO ((p:G)^(i+1)) p f (fc p f g h t i).1 (fc p f g h t i).2) p) g p).2:=rfl;have hKE:Au ((p:G)^(i+1)) p f g h t (fc p f g h t i).1 (fc p f g h t i).2=(aS (aN<|gx (aN<|jO ((p:G)^(i+1)) p f (fc p f g h t i).1 (fc p f g h t i).2) (cT (pZ ((p:G)^(i+1)) p f g t (fc p f g h t i).1 (fc p f g h t i).2) h p) p) g p).1:=rfl;have T:nF f (fc p f g h t i).1 (fc p f g h t i).2=aN (lv f<|aN<|lN (fc p f g h t i).1 (fc p f g h t i).2):=rfl;have gB:∀d,aH s ((fc p f g h t i).1.getD d 0):=λd=>by have:=C.Gr d;unfold aH at*;omega
 have kB:∀d,aH s ((fc p f g h t i).2.getD d 0):=λd=>by have:=C.Kr d;unfold aH at*;omega
 generalize hG0:(fc p f g h t i).1=m at*;generalize hK0:(fc p f g h t i).2=K at*;generalize HS:(p:G)^(i+1)=l at*;refine j<|N J<|al J (λy=>?_)<|λy=>?_
 .have y:i<k:=by have y:((i+1:Y):G)<((k+1:Y):G):=aU y;omega
  have gl:=C.Gl;have kl:=C.Kl;have Hn:=aao m K s s O O O gB kB;have U:∀i,aH (2*s+1+u) (E (aN<|lN m K) i 0):=λi=>by rw[<-cH,qJ,cH];exact(ab6 m K s s gB kB O O i).le O
  have hil:Z (aN<|lN m K)<=200:=by have:=py<|lN m K;rw[I9]at this;omega
  have W:=afz f (aN<|lN m K) (2*s+1+u) O O O (λi=>(hu i).le O) U;have b:∀i,aH (2*s+2+u) (E (nF f m K) i 0):=λi=>by rw[T,<-cH,qJ,cH,F3];exact(((hu i).le (O:u<=2*s+1+u)).sub<|U i).le O
  rw[<-T]at W;have hLl:Z (jO l p f m K)=Z (nF f m K):=by rw[hE,cy]
  have hLr:∀d,d<Z (nF f m K)->E (jO l p f m K) d 0=E (nF f m K) d 0/l%(p:G):=λd _=>by rw[hE];exact getD_map (f:=λx=>x/l%(p:G)) VK _ d
  have e:rp p (jO l p f m K):=λd=>by rw[hE,getD_map (f:=λx=>x/l%(p:G)) VK];exact⟨iN _ O,iO _ O⟩
  have htr:=xE (jO l p f m K) p O O O<|λd=>(e d).1;rw[Ih e]at htr;have tl:=A.tl;have EA:=uz t (aN<|jO l p f m K) p O O O O A.tc.1 e2.1;have EW:=v5 t (aN<|jO l p f m K) p;have vT:=te p H.hp H.le (cT t (aN<|jO l p f m K) p) g O O (nv H.pos _ _) A.hg.c A.hg.ne;rw[<-hGE]at vT;have hm2:=uz (pZ l p f g t m K) h p O O O O e4.1 A.hh.c.1;have avZ:=v5 (pZ l p f g t m K) h p;have arz:=Ii (aN<|jO l p f m K) (cT (pZ l p f g t m K) h p) p O O O O e2.1 (nv H.pos _ _).1;have sf:=py<|gx (aN<|jO l p f m K) (cT (pZ l p f g t m K) h p) p;rw[MQ]at sf;have Av:=zo p H.hp H.le (aN<|gx (aN<|jO l p f m K) (cT (pZ l p f g t m K) h p) p) g O O (k7 H.pos<|BQ H.pos _ _) A.hg.c A.hg.ne;rw[<-hKE,v3 e6.2]at Av;have ha1:=SN m l (pZ l p f g t m K) s O O O gB v (λd=>by have:=e4.1 d;omega);have Ny:=SN K l (Au l p f g h t m K) s O O O kB v (λd=>by have:=e6.1 d;omega);rw[afE A l C.Gm O,<-hn1]at ha1;rw[afE A l C.Km O,<-hn2]at Ny;have hqm:=kZ l p (v.sm O)<|(aH.one (a:=(p:G)) O).sm O;generalize pZ l p f g t m K=dg at*;generalize Au l p f g h t m K=dh at*;generalize jO l p f m K=L at*;generalize nF f m K=D at*;refine cP<|aL<|j<|au<|F<|rc J J Hn<|rc J J W<|z J<|F<|fT aw [] J J (z J<|j<|N J ?_)
  refine au<|a8 (α:=Y) (λd=>⟨[(0,I .z f),(1,I aw g),(2,I aw h),(3,cU p),(4,R ((k+1:Y):G)),(10,.c<|.P 0 0),(11,I aw t),(12,.c<|.P 2005000 0),(13,.c<|.P 3003000 0),(14,R ((i+1:Y):G)),(15,I .z D),(16,.c<|.X 7000000),(17,R d)],[(0,.box 208 0 [.V (.slice none 0 0),.V<|.slice none 0 0]),(2005000,.box 208 0 [.S .z m,.S .z K]),(3003000,.box 42 0<|av .z l),(7000000,.vec 150 aw<|c d L)],9,[]⟩) (λd=>d<=Z D) (λd=>Z D-d) 0 (aY _) aM ?_;intro d hj;have hl:(c d L).length=d:=b8;refine j<|N J<|al J (λo=>?_)<|λo=>?_
  .have o:d<Z D:=by have o:(d:G)<(Z D:G):=aU o;omega
   have ej:af ((d:G))=d:=bY d;have ze:=EC (E D (af<|(d:G)) 0) l O ((b _).sm O)<|v.sm O;have BC:=aap (E D (af<|(d:G)) 0/l) p O O (by
    have h1:=b<|af<|(d:G);have h2:aH (2*s+2+u) (E D (af<|(d:G)) 0/l):=by have:=VM (E D (af<|(d:G)) 0) l;unfold aH at*;omega
    exact h2.sm O)
   refine aD<|j<|au ?_;refine F<|rc J J ze (z J ?_) (hp:=aF);refine cu<|rc J J BC<|rl aw [_] J J (ra J J J J J J J J J ?_ ?_<|z J ?_)
   .show(_+1+(_+1)/4+192)*8<=_;omega
   .show(_+1)*1<=_;omega
   refine bw<|rt J (hp:=aF)<|aT (d+1) o (O:Z D-(d+1)<Z D-d)<|Wk.trans (wk (st':=⟨[(0,I .z f),(1,I aw g),(2,I aw h),(3,cU p),(4,R ((k+1:Y):G)),(10,.c<|.P 0 0),(11,I aw t),(12,.c<|.P 2005000 0),(13,.c<|.P 3003000 0),(14,R ((i+1:Y):G)),(15,I .z D),(16,.c<|.X 11005000),(17,R ((d+1:Y):G))],[(0,.box 208 0 [.V (.slice none 0 0),.V<|.slice none 0 0]),(2005000,.box 208 0 [.S .z m,.S .z K]),(3003000,.box 42 0<|av .z l),(11005000,.vec 150 aw<|c (d+1) L)],24,[]⟩) (bO J) ⟨bR J,bR J,bR J,bE J ?_,aX⟩)<|Wk.trans (fU 7000000 11005000 J J J) aM;refine be (aG.vec 150 aw) ?_;rw[rU _ d O,hLr d o,ej]
  .have o:d=Z D:=by have o:¬(d:G)<(Z D:G):=a6 o;omega
   subst o;rw[iY O];refine a7<|aL<|cY 7000000 J J J<|bt J J htr J ?_;refine F<|rc J J EA<|rc J J vT<|z J<|F<|rc J J hm2<|rc J J arz<|rc J J Av<|z J ?_;refine F<|rc J J ha1<|rc J J Ny<|z J ?_;refine cu<|rc J J (jq p O O) (rc J J hqm<|z J ?_) (hp:=aF);refine bw<|rt J (hp:=aF)<|aT (i+1) y M6<|wk (bO J) ⟨bE J J,bE J J,bE J ?_,aX⟩;rw[fK,HS];rfl
 .have y:i=k:=by have y:¬((i+1:Y):G)<((k+1:Y):G):=a6 y;omega
  subst y;refine a7<|aL ?_;rw[hG0,hK0];exact N J<|bU J J
end
section
variable{p:Y}(H:br p)
open Classical in
noncomputable def yj(p:Y)(g a:V G):V G:=if e:∃t,bA p t/\Z t<Z g/\(fx g:Fx p)∣fx t*fx a-1/\r q 258 [I aw g,I aw a,cU p] (I aw t)then Ci e else[]
include H in
def arB{g a:V G}(f:Mon p g)(i:Mon p a)(k:2<=Z g)(l:Z g<=100)(m:a.length<=100)(d:Co (fx g:Fx p) (fx a)):bA p (yj p g a)/\Z (yj p g a)<Z g/\(fx g:Fx p)∣fx (yj p g a)*fx a-1/\r q 258 [I aw g,I aw a,cU p] (I aw<|yj p g a):=by have e:=ark H f i k l m d;unfold yj;rw[dif_pos e];exact wb e
noncomputable def tD(p k:Y)(f:V G)(l:V (V G)):V G×V G:=fc p f (l.getD 0 []) (kh p l.tail<|Z l.tail) (yj p (l.getD 0 [])<|kh p l.tail<|Z l.tail)<|k-1
noncomputable def sr(p k:Y):V G->V (V G)->V (V G)
 |_,[]=>[]
 |f,[_]=>[f.map (dH · ((p:G)^k))]
 |f,g::a::d=>(tD p k f<|g::a::d).1.map (dH · ((p:G)^k))::sr p k (tD p k f<|g::a::d).2 (a::d)
structure wK(p:Y)(f:V G)(l:V (V G)):Prop where
 fm:aJ f
 ok:∀g∈l,Mon p g/\2<=g.length
 pr:(fx f:Fx p)=iw p l
 co:l.Pairwise (λx y=>Co (fx x:Fx p)<|fx y)
 fl:f.length=1+dD l
 d9:dD l<=90
def afI:∀l:V (V G),iw p l=gf l
 |[]=>rfl
 |f::l=>by rw[iw,gf,afI l]
def afJ:∀{l:V (V G)}{g:V G},g∈l->Z g<=1+dD l
 |x::l,g,a=>by
  rw[dD];rcases b9.1 a with rfl|a
  .omega
  .have:=afJ a;omega
include H
def wK.two{f g a:V G}{d:V (V G)}(A:wK p f (g::a::d)):JT p f g (kh p (a::d) (a::d).length) (yj p g<|kh p (a::d) (a::d).length)/\r q 258 [I aw g,I aw<|kh p (a::d) (a::d).length,cU p] (I aw<|yj p g<|kh p (a::d) (a::d).length):=by
 let ⟨k,g2⟩:=A.ok g az;let ⟨t1,t2,t3⟩:=JS H (l:=a::d) (λx hx=>⟨(A.ok x mB).1,by have:=(A.ok x mB).2;omega⟩) _<|aO _;rw[fR]at t2 t3;let ⟨u,h2⟩:=A.ok a az;let ⟨c1,_⟩:=jR.1 A.co;have v:dD (g::a::d)=(Z g-1)+dD (a::d):=rfl;have m:dD (a::d)=(a.length-1)+dD d:=rfl;have y:=A.d9;have B:=A.fl;have i:Co (fx g:Fx p) (fx<|kh p (a::d) (a::d).length):=by rw[t2,afI];exact ae9 H c1
 let ⟨n,o,s,t⟩:=arB H k t1 g2 O O i;refine⟨⟨H,A.fm,k,t1,g2,O,O,O,O,?_,n,o,s⟩,t⟩;rw[A.pr,t2];rfl
def wK.next{f g a:V G}{d:V (V G)}(A:wK p f (g::a::d)){k:Y}(i:1<=k):u6 p f g (kh p (a::d) (a::d).length) (tD p k f<|g::a::d).1 (tD p k f<|g::a::d).2 k/\wK p (tD p k f<|g::a::d).2 (a::d):=by let ⟨T,_⟩:=A.two H;have I:=T.all<|k-1;rw[(O:k-1+1=k)]at I;have I:u6 p f g (kh p (a::d) (a::d).length) (tD p k f<|g::a::d).1 (tD p k f<|g::a::d).2 k:=I;let ⟨t1,t2,t3⟩:=JS H (l:=a::d) (λx hx=>⟨(A.ok x mB).1,by have:=(A.ok x mB).2;omega⟩) _<|aO _;rw[fR]at t2 t3;have m:dD (g::a::d)=(Z g-1)+dD (a::d):=rfl;have n:=A.d9;exact⟨I,I.Km,λx hx=>A.ok x mB,by rw[I.Kp,t2],(jR.1 A.co).2,by rw[I.Kl,t3],O⟩
def afK{k:Y}(v:1<=k):∀(l:V (V G))(f:V G),wK p f l->F1 p k f l (sr p k f l)
 |[],f,A=>by
  refine⟨J,λi n=>absurd n az,?_⟩;have o:f=[1]:=by
   have x:=A.fl;have s:=A.fm.2;match f,x with
   |[c],_=>rw[show c=1 from s]
  rw[o,MU];exact Cg.refl _ _
 |[g],f,A=>by
  have d:(1:G)<(p:G)^k:=by obtain⟨j,rfl⟩:∃j,k=j+1:=⟨k-1,O⟩;have:=H.hp.1;have s:(0:G)<(p:G)^j:=nH O;have y:=hP (O:(1:G)<=(p:G)^j) (O:(0:G)<=p);rw[fK];omega
  have a:(p:G)∣(p:G)^k:=by obtain⟨j,rfl⟩:∃j,k=j+1:=⟨k-1,O⟩;rw[fK];exact Cq _ _
  have C:=A.fl;let ⟨L,g2⟩:=A.ok g az;have M:dD [g]=Z g-1:=rfl;refine⟨J,λi n=>?_,?_⟩
  .have t:i=0:=by simp at n;omega
   subst t;show aJ (f.map (dH · ((p:G)^k)))/\(f.map (dH · ((p:G)^k))).length=Z g/\(fx (f.map (dH · ((p:G)^k))):Fx p)=fx g/\∀j,dH ((f.map (dH · ((p:G)^k))).getD j 0) ((p:G)^k)=(f.map (dH · ((p:G)^k))).getD j 0;refine⟨Cp d A.fm,by rw[cy];omega,?_,λj=>?_⟩
   .have o:(fx f:Fx p)=fx g:=by rw[A.pr,iw,iw,mul_one]
    rw[<-o];refine NN<|Cg.of λi=>?_;rw[cH,cH,qW _ O,<-tu _ a,z5 O,tu _ a]
   .rw[qW _ O];exact N0<|z5 O _
  .show Cg _ (ps f) (ps (f.map (dH · ((p:G)^k)))*1);rw[PS.mul_one];exact Cg.of λi=>by rw[cH,cH,qW _ O,z5 O]
 |g::h::r,f,A=>by
  let ⟨I,B⟩:=A.next H v;have u:=afK v (h::r) _ B;have d:(1:G)<(p:G)^k:=by obtain⟨j,rfl⟩:∃j,k=j+1:=⟨k-1,O⟩;have:=H.hp.1;have s:(0:G)<(p:G)^j:=nH O;have y:=hP (O:(1:G)<=(p:G)^j) (O:(0:G)<=p);rw[fK];omega
  have a:(p:G)∣(p:G)^k:=by obtain⟨j,rfl⟩:∃j,k=j+1:=⟨k-1,O⟩;rw[fK];exact Cq _ _
  rw[sr];generalize (tD p k f<|g::h::r).1=m at*;generalize (tD p k f<|g::h::r).2=K at*;refine⟨by rw[ik,u.len];rfl,λi n=>?_,?_⟩
  .cases i with
   |zero=>
    show aJ (m.map (dH · ((p:G)^k)))/\(m.map (dH · ((p:G)^k))).length=Z g/\(fx (m.map (dH · ((p:G)^k))):Fx p)=fx g/\∀j,dH ((m.map (dH · ((p:G)^k))).getD j 0) ((p:G)^k)=(m.map (dH · ((p:G)^k))).getD j 0
    refine⟨Cp d I.Gm,by rw[cy,I.Gl],?_,λj=>?_⟩
    .rw[<-I.Gp];refine NN<|Cg.of λi=>?_;rw[cH,cH,qW _ O,<-tu _ a,z5 O,tu _ a]
    .rw[qW _ O];exact N0<|z5 O _
   |succ i=>exact u.ok i (by simp only[ik]at n⊢;omega)
  .show Cg _ (ps f) (ps (m.map (dH · ((p:G)^k)))*pN (sr p k K<|h::r));refine I.pr.trans<|Cg.mul (Cg.of λi=>?_) u.pr;rw[cH,cH,qW _ O,z5 O]
omit H in
def arC{l:V (V G)}{i:Y}(a:i+1<Z l):∃d f,aA i l=l.getD i []::d::f/\aA (i+1) l=d::f:=by
 have k:aA i l=l.getD i []::aA (i+1) l:=by rw[rK O,aK,cO O];rfl
 have g:aA (i+1) l=l.getD (i+1) []::aA (i+2) l:=by rw[rK a,aK,cO a];rfl
 exact⟨_,_,by rw[k,g],g⟩
def arD{f:V G}{l:V (V G)}(A:wK p f l){k u w:Y}(k1:1<=k)(kk:k<=1000)(hu:∀i,aH u (E f i 0))(hw:aH w ((p:G)^k))(u9:u<=1000)(w9:w<=u)(w1:1<=w):r q 179 [I .z f,I (.sl aw) l,cU p,R k] (I (.sl .z)<|sr p k f l):=by
 have JR:=H.hp.1;have afD:=H.le;have U:(0:G)<(p:G)^k:=nH O;have ZT:Z l<=90:=by have h1:=(Vd (l:=l) λg hg=>(A.ok g hg).2).1;have a:=A.d9;omega
 refine aI Tryz.func179 ?_;refine N J<|bt J J (SO p k O O) J<|F<|fT (.sl .z) [] J J (z J<|j<|N J ?_);refine au<|a8 (α:=Y×V G×V (V G)) (λy=>⟨[(0,I .z y.2.1),(1,I (.sl aw) l),(2,cU p),(3,R k),(9,.c<|.P 1003000 0),(10,.c<|.X 2000000),(11,R y.1)],[(1003000,.box 42 0<|av .z<|(p:G)^k),(2000000,.vec 161 (.sl .z) y.2.2)],4,[]⟩) (λy=>wK p y.2.1 (aA y.1 l)/\y.2.2++sr p k y.2.1 (aA y.1 l)=sr p k f l/\Z y.2.2<=y.1/\y.1<=Z l/\(l≠[]->y.1<Z l)/\∀i,aH u (E y.2.1 i 0)) (λy=>Z l-y.1) (0,f,[]) ⟨A,J,aO _,aY _,λdj=>bQ.2 dj,hu⟩ (wk (bO J) ⟨bE J J,bR J,h⟩) ?_;rintro⟨i,M,o⟩ ⟨B,t,b3,b4,b5,D⟩;simp only at B t b3 b4 b5 D;have dF:Z M<=91:=by have:=B.fl;have:=B.d9;omega
 refine j<|N J<|al J (λs=>?_)<|λs=>?_
 .have s:i+1<Z l:=by have s:(i:G)+1<(Z l:G):=aU s;omega
  let ⟨b,d,S,W⟩:=arC s;rw[S]at B t;let ⟨T,VN⟩:=B.two H;let ⟨Q,B'⟩:=B.next H k1;have v:=ari H (l:=b::d) (λx hx=>⟨(B.ok x mB).1,by have:=(B.ok x mB).2;omega⟩) (by have:=B'.d9;omega) (by rw[<-W];simp;omega);have C:=arp T VN k1 kk D hw O O w1;have hE:fc p M (l.getD i []) (kh p (b::d)<|Z<|b::d) (yj p (l.getD i [])<|kh p (b::d)<|Z<|b::d) (k-1)=tD p k M (l.getD i []::b::d):=rfl;rw[hE]at C;rw[sr]at t;generalize hG:(tD p k M<|l.getD i []::b::d).1=L at*;generalize hK:(tD p k M<|l.getD i []::b::d).2=K at*;have gB:∀i,aH w (E L i 0):=λi=>by have:=Q.Gr i;unfold aH at*;omega
  have kB:∀i,aH u (K.getD i 0):=λi=>by have:=Q.Kr i;exact aH.le (by unfold aH at*;omega:aH w (K.getD i 0)) w9
  have gl:Z L<=100:=by rw[Q.Gl];exact T.lg
  have m:(1:G)<(p:G)^k:=by have:=Q.Gr<|Z L-1;rw[Q.Gm.2]at this;omega
  have n:=SQ L ((p:G)^k) w O O U gB hw;rw[(Cp m Q.Gm).trim]at n;have ei:af ((i:G))=i:=bY i;have Bh:(E l (af<|(i:G))<|ET.dE<|.sl aw)=l.getD i []:=be (λiC=>l.getD iC []) ei;have es:aA (af<|(i:G)+1) (c (Z l) l)=b::d:=by rw[fR,(O:af ((i:G)+1)=i+1),W]
  rw[<-Bh]at C;have v:r q 215 [I (.sl aw) (aA (af<|(i:G)+1)<|c (Z l) l),cU p] (I aw<|kh p (b::d)<|Z<|b::d):=by rw[es];exact v
  refine aD<|j<|au ?_;refine F<|rc J J v (rc J J C<|z J ?_) (hp:=aF);refine F<|rc J J n<|rl (.sl .z) [_] J J (ra J J J J J J J J J ?_ ?_<|z J<|rt J ?_)
  .show(Z o+1+(Z o+1)/4+192)*24<=_;omega
  .show(Z o+1)*1<=_;omega
  refine bw<|rt J (hp:=aF)<|aT (i+1,K,o++[L.map (dH · ((p:G)^k))]) ⟨?_,?_,?_,?_,?_,kB⟩ ?_<|Wk.trans (wk (st':=⟨[(0,I .z K),(1,I (.sl aw) l),(2,cU p),(3,R k),(9,.c<|.P 1003000 0),(10,.c<|.X 6006000),(11,R ((i+1:Y):G))],[(1003000,.box 42 0<|av .z<|(p:G)^k),(6006000,.vec 161 (.sl .z)<|o++[L.map (dH · ((p:G)^k))])],16,[]⟩) (bO J)<|xa J)<|Wk.trans (fU 2000000 6006000 J J J) aM
  .show wK p K (aA (i+1) l);rw[W];exact B'
  .show(o++[L.map (dH · ((p:G)^k))])++sr p k K (aA (i+1) l)=_;rw[W,<-t,l7];rfl
  .show Z (o++[_])<=i+1;simp;omega
  .show i+1<=_;omega
  .intro _;exact s
  .show Z l-(i+1)<Z l-i;omega
 .have s:¬i+1<Z l:=by have s:¬(i:G)+1<(Z l:G):=a6 s;omega
  refine a7<|aL<|j<|N J<|al J (λa=>?_)<|λa=>?_
  .have a:0<Z l:=by have a:(Z l:G)>0:=aU a;omega
   have hi:=b5<|bQ.1 a;have S:aA i l=[l.getD i []]:=by rw[rK O,tU O,aK,cO O];rfl
   rw[S]at B t;have m:(1:G)<(p:G)^k:=by obtain⟨e,rfl⟩:∃e,k=e+1:=⟨k-1,O⟩;have a:(0:G)<(p:G)^e:=nH O;have h3:=hP (O:(1:G)<=(p:G)^e) (O:(0:G)<=p);rw[fK];omega
   have n:=SQ M ((p:G)^k) u O O U D<|hw.le w9;rw[(Cp m B.fm).trim]at n;refine cu<|rc J J n<|rl (.sl .z) [_] J J (ra J J J J J J J J J ?_ ?_<|z J ?_)
   .show(Z o+1+(Z o+1)/4+192)*24<=_;omega
   .show(Z o+1)*1<=_;omega
   refine aL<|cY 6005000 J J J<|N J<|bU J ?_;rw[<-t];rfl
  .have a:l=[]:=eT (by have a:¬(Z l:G)>0:=a6 a;omega);subst a;refine aD<|cY 2000000 J J J<|N J<|bU J ?_;rw[List.drop_nil]at t;rw[<-t];show I (.sl .z) o=_;rw[sr,iD]
end
end Go.El
namespace Go.El
open Go Go.Proofs Go.RowKit
def arE a d:dR (a.num*(d.den:G)) (d.num*(a.den:G))=nX a d:=by
 have i:=Rat.lt_iff a d;have g:=Rat.lt_iff d a;unfold dR nX;by_cases c1:a<d
 .rw[b c1,b<|i.1 c1]
 .rw[w c1,w<|λh=>c1<|i.2 h];by_cases f:d<a
  .rw[b f];first|rw[b (g.1 f)]|rw[w (by have:=g.1 f;omega)]
  .rw[w f];first|rw[w (λh=>f<|g.2 h)]|rw[b (by have:=mt g.2 f;have:=mt i.2 c1;omega)]
def arF{k}(t:k<=1000000000)(a d:V Rat)(u:Z a<=1000)(n:∀i,QS k (E a i 0)):r q 16 [I .q a,I .q d] (cB<|decide<|a=d):=by
 refine aI Tryz.func16 ?_;refine N J<|j<|N J<|al J (λh=>?_)<|λh=>aD ?_
 .have h:=xA h;refine N J<|bL<|cK<|eJ J<|be cB ?_;rw[nr (λe=>h rW)]
 .have h:=vX h;have o:Z a=Z d:=O;refine j<|N J<|au<|a8 (α:=Y) (λi=>⟨[(0,I .q a),(1,I .q d),(5,R i)],[],4,[]⟩) (λi=>i<=Z a/\∀g,g<i->E a g 0=E d g 0) (λi=>Z a-i) 0 ⟨aY _,λg m=>absurd m<|vH _⟩ aM ?_;rintro i ⟨v,ht⟩;refine j (N J<|al J (λl=>?_)<|λl=>?_)
  .have l:i<Z a:=by have l:(i:G)<(Z a:G):=aU l;omega
   have p:af ((i:G))=i:=bY i;have s:r q 21 [aQ (E a (af<|(i:G)) 0),aQ<|E d (af<|(i:G)) 0] (cB<|decide<|List.getD a i 0=E d i 0):=by rw[p];exact aaA _ _ (n i) O
   refine aD<|j<|au<|F<|rc J J s (z J<|al J (λf=>?_)<|λf=>cP<|bw ?_) (hp:=aF)
   .have f:E a i 0≠E d i 0:=λe=>by have f:(!decide (List.getD a i 0=E d i 0))=ae:=f;rw[o9 e]at f;cases f
    refine N J<|bL ?_;repeat(first|refine cK ?_|refine kX ?_|refine lI ?_)
    refine eJ J<|be cB ?_;rw[nr (λe=>f rW)]
   .have f:E a i 0=E d i 0:=by
     have f:(!decide (List.getD a i 0=E d i 0))=ah:=f;by_cases e:E a i 0=E d i 0
     .exact e
     .rw[nr e]at f;cases f
    refine rt J<|aT (i+1) ⟨l,λg m=>?_⟩ nS aM;by_cases e:g=i
    .rw[e];exact f
    .exact ht g O
  .have l:i=Z a:=by have l:¬(i:G)<(Z a:G):=a6 l;omega
   subst l;refine a7<|aL<|N J<|bU J<|be cB ?_;refine(o9<|Rx.aaR o λg=>?_).symm;by_cases c:g<Z a
   .exact ht g c
   .rw[Rx.iP a O,Rx.iP d O]
def afL{k}(s:k<=1000000000) a(t:Z a<=1000)(g:E a (Z a-1) 0≠0)(l:∀i,QS k (E a i 0))(m:a≠[]):r q 35 [I .q a] (cB ae):=by
 refine aI Tryz.func35 ?_;have u:=bQ.2 m;refine N J<|j<|N J ?_;refine au<|a8 (α:=Y) (λi=>⟨[(0,I .q a),(3,R i)],[],4,[]⟩) (λi=>i<=Z a) (λi=>Z a-i) 0 (aY _) aM ?_;intro i v;refine j<|N J<|al J (λd=>?_)<|λd=>?_
 .have d:i<Z a:=by have d:(i:G)<(Z a:G):=aU d;omega
  have n:=amh (k:=k) (E a (af<|(i:G)) 0) (l _) O;refine aD<|j<|au<|F<|rc J J n (z J<|al J (λf=>by cases f)<|λf=>cP<|bw ?_) (hp:=aF);exact rt J<|aT (i+1) d nS aM
 .refine a7<|aL ?_;have o:af ((Z a:G)-1)=Z a-1:=O;have p:=RR<|E a (af<|(Z a:G)-1) 0;refine F (rg 19 J J (λh=>?_)<|λ_=>jV J J J J J p (z J<|bU J<|be cB ?_) (hp:=aF))
  .exfalso;have h:((Z a:G)==0)=ae:=h;have:=eq_of_beq h;omega
  .show(fB (E a (af<|(Z a:G)-1) 0).num !=0)=ae;rw[o];exact bne_iff_ne.2 λe=>g<|v8<|v7.1 e
def arG{k}(t:k<=1000000000) a d(u:Z a<=1000)(v:Z d<=1000)(o:∀i,QS k (E a i 0))(p:∀i,QS k (E d i 0)):r q 181 [I .q a,I .q d] (cB<|decide<|ju a d<0):=by
 refine aI Tryz.func181 ?_;refine N J<|du<|N J<|al J (λl=>?_)<|λl=>aD ?_
 .have l:=xA l;refine N J<|bL<|cK<|eJ J<|be cB ?_;rw[ju,b O,pU];refine decide_eq_decide.2 ⟨λe=>by rw[b e];decide,λe=>?_⟩;split at e
  .assumption
  .split at e<;>omega
 .have l:(Z a:G)=(Z d:G):=vX l;rw[show ju a d=q6 a d (Z a)by rw[ju,w O]];refine du<|N J ?_;refine au<|a8 (α:=Y) (λk=>⟨[(0,I .q a),(1,I .q d),(5,R<|(k:G)-1)],[],4,[]⟩) (λk=>k<=Z a/\q6 a d (Z a)=q6 a d k) (λk=>k) (Z a) ⟨aO _,J⟩ aM ?_;rintro i ⟨x,hc⟩;refine du (N J<|al J (λg=>?_)<|λg=>?_)
  .have g:0<i:=by have g:(i:G)-1>=0:=aU g;omega
   obtain⟨j,rfl⟩:∃j,i=j+1:=⟨i-1,O⟩;have s:af (((j+1:Y):G)-1)=j:=O;have n:r q 216 [aQ (E a (af<|((j+1:Y):G)-1) 0),aQ<|E d (af<|((j+1:Y):G)-1) 0] (R<|nX (E a j 0)<|E d j 0):=by rw[s,<-arE];exact amc (k:=k) _ _ (o _) (p _) O
   rw[q6]at hc;rw[hc];generalize nX (E a j 0) (E d j 0)=m at*;refine aD<|du<|au<|F<|rc J J n (z J<|al J (λf=>?_)<|λf=>cP<|bw ?_) (hp:=aF)
   .have f:m≠0:=bne_iff_ne.1 f;refine F<|rc J J n (z J<|bL ?_) (hp:=aF);repeat(first|refine cK ?_|refine kX ?_|refine lI ?_)
    refine eJ J ?_;rw[b f]
   .have f:m=0:=by
     have f:(m !=0)=ah:=f;by_cases e:m=0
     .exact e
     .rw[bne_iff_ne.2 e]at f;cases f
    refine rt J (hp:=aF)<|aT j ⟨O,?_⟩ s8<|wk ⟨sR J,sR J,sE J ?_,h⟩ h
    .exact w<|λe=>e f
    .exact je (O:((j+1:Y):G)-1-1=(j:G)-1)
  .have g:i=0:=by have g:¬(i:G)-1>=0:=a6 g;omega
   subst g;rw[hc];exact a7<|aL<|N J<|cw J
def arH l x(W:Z l<=1000)(B:FZ 20 x)(H:∀y∈l,FZ 20 y):r q 142 [I UT l,.a<|av UT x] (I UT<|sp ([],0) (λy=>decide<|ju x.1 y.1<0) x l):=by
 refine aI Tryz.func142 ?_;have o:=VG ([],0) (λy=>decide<|ju x.1 y.1<0) x l;have K:=VF ([],0) (λy=>decide<|ju x.1 y.1<0) x l;generalize u:ji ([],0) (λy=>decide<|ju x.1 y.1<0) x l=T at*;refine N J<|F<|fT UT [] J J (z J<|N J<|j<|N J ?_);refine au<|a8 (α:=Y) (λi=>⟨[(0,I UT l),(3,.c<|.P 0 0),(5,.c<|.X 1000000),(6,cB (T i).1),(7,R i)],[(0,.box 114 0<|av UT x),(1000000,.vec 114 UT (T i).2)],4,[]⟩) (λi=>i<=Z l) (λi=>Z l-i) 0 (aY _) (by rw[<-u];exact(wk (bO J) ⟨bE J J,bR J,h⟩)) ?_;intro i b;have p:=o i;have L:(T i).2.length<=1001:=by split at p<;>omega
 refine j<|N J<|al J (λh1=>?_)<|λh1=>?_
 .have h1:i<Z l:=by have h1:(i:G)<(Z l:G):=aU h1;omega
  have M:af ((i:G))=i:=bY i;have v:(E l (af<|(i:G))<|ET.dE UT)=E l i ([],0):=be (λQ=>E l Q ([],0)) M;have C:=H (E l i ([],0)) O9;have A:=arG (k:=20) D x.1 (E l i ([],0)).1 B.l C.l B.q C.q;have f:=K i;have s:=o<|i+1;rw[<-v]at*;obtain⟨V,g⟩:∃V,V=if(!(T i).1&&decide (ju x.1 (E l (af<|(i:G))<|ET.dE UT).1<0))=ae then(T i).2++[x]else(T i).2:=⟨_,J⟩
  have t:(T<|i+1).2=V++[E l (af<|(i:G)) (ET.dE UT)]:=by rw[f,g];split<;>rfl
  have U:Z V<=1001:=by rw[t,iq,s3]at s;split at s<;>omega
  refine aD<|j<|au ?_;refine jH ⟨[(0,I UT l),(3,.c<|.P 0 0),(5,.c<|.X 1000000),(6,cB (T<|i+1).1),(7,R i)],[(0,.box 114 0<|av UT x),(1000000,.vec 114 UT V)],8,[]⟩ ?_<|λn=>F<|rg 17 J J (λd=>?_)<|λd=>?_
  .refine cu (rl UT [_] J J (ra J J J J J J J J J ?_ ?_<|z J ?_) (hp:=aF))
   .show(_+1+(_+1)/4+192)*32<=_;omega
   .show(_+1)*2<=_;omega
   refine bw<|rt J<|aT (i+1) h1 wm<|Wk.trans (wk (st':=⟨[(0,I UT l),(3,.c<|.P 0 0),(5,.c<|.X 8006000),(6,cB (T<|i+1).1),(7,R ((i+1:Y):G))],[(0,.box 114 0<|av UT x),(8006000,.vec 114 UT (T<|i+1).2)],16,[]⟩) (bO J) ⟨bR J,bE J ?_,h⟩)<|Wk.trans (fU 1000000 8006000 J J J) aM;rw[t]
  .have d:(T i).1=ah:=by
    cases e:(T i).1
    .rfl
    .rw[e]at d;cases d
   refine jV J J J J J A (z J<|al J (λm=>?_)<|λm=>?_) (hp:=aF)
   .have m:decide (ju x.1 (E l (af<|(i:G))<|ET.dE UT).1<0)=ae:=m;rw[d,m]at g;rw[d,m]at f;have g:V=(T i).2++[x]:=g;refine F (rl UT [x] J J (ra J J J J J J J J J ?_ ?_<|z J ?_))
    .show(_+1+(_+1)/4+192)*32<=_;omega
    .show(_+1)*2<=_;omega
    refine rt J<|dB n<|Wk.trans (wk (st':=⟨[(0,I UT l),(3,.c<|.P 0 0),(5,.c<|.X 6003000),(6,cB (T<|i+1).1),(7,R i)],[(0,.box 114 0<|av UT x),(6003000,.vec 114 UT V)],8,[]⟩) ⟨sR J,sR J,sR J,sE J ?_,sR J,h⟩ ⟨bR J,bE J ?_,h⟩)<|Wk.trans (fU 1000000 6003000 J J J) aM
    .rw[f];rfl
    .rw[g]
   .have m:decide (ju x.1 (E l (af<|(i:G))<|ET.dE UT).1<0)=ah:=m;rw[d,m]at g;rw[d,m]at f;have g:V=(T i).2:=g;refine cP (dB n<|wk ⟨sR J,sR J,sR J,sE J ?_,sR J,h⟩ ⟨bR J,bE J ?_,h⟩)
    .rw[f,d];rfl
    .rw[g]
  .have d:(T i).1=ae:=by
    cases e:(T i).1
    .rw[e]at d;cases d
    .rfl
   rw[d]at g;rw[d]at f;have g:V=(T i).2:=g;refine z J<|al J (λm=>by cases m)<|λm=>cP<|dB n<|wk ⟨sR J,sR J,sR J,sE J ?_,sR J,h⟩ ⟨bR J,bE J ?_,h⟩
   .rw[f,d];rfl
   .rw[g]
 .have h1:i=Z l:=by have h1:¬(i:G)<(Z l:G):=a6 h1;omega
  subst h1;refine a7<|aL<|j<|N J<|al J (λd=>?_)<|λd=>?_
  .have d:(T<|Z l).1=ah:=by
    cases e:(T<|Z l).1
    .rfl
    .rw[e]at d;cases d
   refine cu<|rl UT [x] J J (ra J J J J J J J J J ?_ ?_<|z J ?_)
   .show(_+1+(_+1)/4+192)*32<=_;omega
   .show(_+1)*2<=_;omega
   refine aL<|cY 6003000 J J J<|N J<|bU J ?_;unfold sp;rw[u,d];rfl
  .have d:(T<|Z l).1=ae:=by
    cases e:(T<|Z l).1
    .rw[e]at d;cases d
    .rfl
   refine aD<|cY 1000000 J J J<|N J<|bU J ?_;unfold sp;rw[u,d];rfl
def arI a n(H:n<=1000)(L:Z a<=13)(u:∀i,aH n (E a i 0)):r q 176 [I .z a] (aZ ((gR a:Y):G)):=by
 refine aI Tryz.func176 ?_;have v:∀i,i<=Z a->aH (n+1) ((mh a i:Y):G):=λi x=>abp a u O
 have t:∀d,d<=12->aH (n+2) ((mh a (Z a)*2^d:Y):G):=λd y=>by have k:=v (Z a)<|aO _;have p:2^d<=2^12:=eQ D y;unfold aH at*;rw[px]at*;have g:mh a (Z a)*2^d<=mh a (Z a)*2^12:=fN _ p;rw[fO];generalize (4294967296:Y)^(n+1)=M at*;omega
 refine N J<|bt J J (jq 0 D D) J<|j<|N J ?_;refine au<|a8 (α:=Y) (λi=>⟨[(0,I .z a),(2,.c<|.P 0 0),(3,.c<|.P 1001000 0),(4,R i)],[(0,.box 42 0 [.B ah,.V<|.slice none 0 0]),(1001000,.box 42 0<|av .z ((mh a i:Y):G))],3,[]⟩) (λi=>i<=Z a) (λi=>Z a-i) 0 (aY _) (wk (bO J) ⟨bE J J,bE J J,h⟩) ?_;intro i x;refine j<|N J<|al J (λf=>?_)<|λf=>?_
 .have f:i<Z a:=by have f:(i:G)<(Z a:G):=aU f;omega
  have s:af ((i:G))=i:=bY i;have A:=By<|E a (af<|(i:G)) 0;have k:=((v i x).sm O);have p:=(u<|af<|(i:G)).sm (by omega:n<=1099511627776);have l:=R2 _ _ k p;have m:=xq _ _ k p;have o:((mh a (i+1):Y):G)=((mh a i:Y):G)+((E a i 0).natAbs:G):=by rw[mh,xt]
  refine aD<|j<|au ?_;refine F<|rc J J A (z J<|al J (λg=>?_)<|λg=>?_) (hp:=aF)
  .have g:fB (E a (af<|(i:G)) 0)<0:=aU g;rw[MZ,s]at g;refine cu<|rc J J l (z J<|bw<|rt J (hp:=aF)<|aT (i+1) f nS<|wk (bO J) ⟨bE J J,bE J ?_,h⟩) (hp:=aF);rw[o,(O:((E a i 0).natAbs:G)= -(E a i 0)),s];rfl
  .have g:¬fB (E a (af<|(i:G)) 0)<0:=a6 g;rw[MZ,s]at g;refine cu<|rc J J m (z J<|bw<|rt J (hp:=aF)<|aT (i+1) f nS<|wk (bO J) ⟨bE J J,bE J ?_,h⟩) (hp:=aF);rw[o,(O:((E a i 0).natAbs:G)=E a i 0),s];rfl
 .have f:i=Z a:=by have f:¬(i:G)<(Z a:G):=a6 f;omega
  subst f;refine a7<|aL<|j<|N J ?_;refine au<|a8 (α:=Y) (λd=>⟨[(0,I .z a),(2,.c<|.P 0 0),(3,.c<|.P 1001000 0),(5,R ((d+1:Y):G))],[(0,.box 42 0 [.B ah,.V<|.slice none 0 0]),(1001000,.box 42 0<|av .z ((mh a (Z a)*2^d:Y):G))],8,[]⟩) (λd=>d<=Z a-1) (λd=>Z a-d) 0 (aY _) (wk (bO J) ⟨bE J J,bE J ?_,h⟩) ?_
  .rw[po,qB]
  intro d y;refine j<|N J<|al J (λf=>?_)<|λf=>?_
  .have f:d+1<Z a:=by have f:((d+1:Y):G)<(Z a:G):=aU f;omega
   have k:=((t d O).sm O);refine aD<|j<|au<|cu<|rc J J (xq _ _ k k)<|z J<|bw<|rt J (hp:=aF)<|aT (d+1) O (O:Z a-(d+1)<Z a-d)<|wk (bO J) ⟨bE J J,bE J ?_,h⟩;rw[fO,<-xt,<-Nat.two_mul,gG 2,pj];rfl
  .have f:¬((d+1:Y):G)<(Z a:G):=a6 f;have e:d=Z a-1:=O;subst e;exact a7<|aL<|N J<|bU J J
def sx(f:V G)(k:Y):G:=if k=Z f-1 then 1 else E f k 0*E f (Z f-1) 0^(Z f-2-k)
def Pa(f:V G):V G:=(List.range<|Z f).map<|sx f
def arJ f(A:1<=Z f)(B:Z f<=12)(t:∀i,aH 210 (E f i 0)):r q 170 [I .z f] (I .z<|Pa f):=by
 refine aI Tryz.func170 ?_;obtain⟨n,x⟩:∃n,Z f=n+1:=⟨Z f-1,O⟩;have l:pV (sx f) 0 (Z f) (Z f)=Pa f:=aqr _ _ _;have m:∀k,k<=12->aH 2600 (E f n 0^k):=λk y=>((t n).pow k).le (by have:=fN 210 y;omega)
 refine N J<|N J<|F<|rm .z (Z f) J J J J J J LI ?_ ?_ ?_<|z J ?_
 .show(Z f:G)-1+1=(Z f:G);omega
 .show Z f*32<=_;omega
 .show Z f*2<=_;omega
 refine F<|rc J J (jq 1 D D)<|vO (T:= .z) (1:G) J J J J J ?_ (z J ?_) (hp:=?_)
 .rw[fo];omega
 .refine bt J J (jq 1 D D) J<|j<|N J ?_;refine au (a8 (α:=Y) (λa=>⟨[(0,I .z f),(3,R n),(4,.c<|.X 2002000),(5,.c<|.P 4001000 0),(6,R<|(n:G)-1-a)],[(2002000,.vec 42 .z<|pV (sx f) 0 (Z f)<|a+1),(4001000,.box 42 0<|av .z<|E f n 0^a)],8,[]⟩) (λa=>a<=n) (λa=>n-a) 0 (aY _) (wk ⟨sR J,sE J ?_,sR J,sR J,sE J ?_,h⟩ ⟨bE J ?_,bE J ?_,h⟩) ?_)
  .exact be R (O:(Z f:G)-1=n)
  .exact be R (O:(Z f:G)-1-1=(n:G)-1-(0:Y))
  .refine be (aG.vec 42 .z) ?_;rw[aqq (sx f) 0 (Z f),(O:af ((Z f:G)-1)=Z f-1-0),<-aeG (sx f) 0 (O:0<Z f)];congr 1;show(1:G)=sx f (Z f-1-0);rw[sx,b O]
  .rw[o8];rfl
  intro a C;refine j<|N J<|al J (λd=>?_)<|λd=>?_
  .have d:a<n:=by have d:(n:G)-1-(a:G)>=0:=aU d;omega
   have v:af ((n:G)-1-(a:G))=Z f-1-(a+1):=O;have g:=m a O;have o:=kZ (E f (af<|(n:G)-1-(a:G)) 0) (E f n 0^a) ((t _).sm O)<|g.sm O;have u:E f (af<|(n:G)-1-(a:G)) 0*E f n 0^a=sx f (Z f-1-(a+1)):=by rw[v,sx,w O,(O:Z f-1=n),(O:Z f-2-(n-(a+1))=a)]
   rw[u]at o;have p:=kZ (E f n 0^a) (E f n 0) (g.sm O)<|(t n).sm O;rw[<-fK]at p;have H:af ((n:G))=n:=bY n;have s:=aqp (sx f) 0 (Z f)<|a+1;refine aD<|j<|au<|F ?_;refine rc J J o ?_ (hp:=aF);refine vO (T:= .z) (sx f<|Z f-1-(a+1)) J J J J J ?_ (z J ?_) (hp:=?_)
   .rw[s];omega
   .clear g m t;refine cu (rc J J p (z J<|bw<|rt J<|aT (a+1) d (O:n-(a+1)<n-a)<|wk ⟨sR J,sR J,sR J,sR J,sE J ?_,h⟩ ⟨bE J ?_,bE J J,h⟩) (hp:=aF))
    .exact be R O
    .rw[v,aeG (sx f) 0 (O:a+1<Z f)]
   .simp only[Pr.an,Pr.h,num,gT,true_and,and_true];rw[s];omega
  .have d:a=n:=by have d:¬(n:G)-1-(a:G)>=0:=a6 d;omega
   subst d;rw[<-x,l];exact a7<|aL<|cY 2002000 J J J<|N J<|cw J
 .simp only[Pr.an,Pr.h,num,gT,true_and,and_true];rw[fo];omega
def arK a g{i}(d:i<Z g):aA i (kJ a g)=Rat.divInt (E g i 0) ((a:G)^(Z g-1-i))::aA (i+1) (kJ a g):=by have f:=O3 a g;rw[rK O];have:=Vo a g d;rw[aK,cO O]at this;rw[<-this];rfl
def arL g(d:Y)(B:0<d)(H:Z g<=12)(v:∀i,aH 210 (E g i 0))(n:aH 210 (d:G)):r q 180 [I .z g,aZ d] (I .q<|kJ d g):=by
 refine aI Tryz.func180 ?_;have l:∀k,k<=12->Sm ((d:G)^k):=λk x=>(n.pow k).sm (by have:=fN 210 x;omega)
 have o:∀k,(d:G)^k≠0:=λk=>Int.ne_of_gt<|nH O
 have p:∀i,Sm (E g i 0):=λi=>(v i).sm O
 have s:Sm (d:G):=n.sm O;clear v n;have y:=O3 d g;refine N J<|F<|rl .q [] J J (z J<|bt J J (jq 1 D D) J<|j<|N J ?_);refine au<|a8 (α:=Y) (λa=>⟨[(0,I .z g),(3,.c<|.P 0 0),(5,I .q<|aA (Z g-a)<|kJ d g),(6,.c<|.P 2001000 0),(7,R<|(Z g:G)-1-a)],[(0,.box 42 0<|av .z (d:G)),(2001000,.box 42 0<|av .z<|(d:G)^a)],4,[]⟩) (λa=>a<=Z g) (λa=>Z g-a) 0 (aY _) (wk ⟨sR J,sR J,sE J ?_,sR J,sE J ?_,h⟩ ⟨bE J J,bE J ?_,h⟩) ?_
 .rw[BO,tU O]
 .exact be R (O:(Z g:G)-1=(Z g:G)-1-(0:Y))
 .rw[o8];rfl
 intro a C;refine j<|N J<|al J (λf=>?_)<|λf=>?_
 .have f:a<Z g:=by have f:(Z g:G)-1-(a:G)>=0:=aU f;omega
  have A:af ((Z g:G)-1-(a:G))=Z g-1-a:=O;have t:=SL (E g (af<|(Z g:G)-1-(a:G)) 0) ((d:G)^a) (o a) (p _)<|l a O;have u:=kZ ((d:G)^a) d (l a O) s;have m:=arK d g (i:=Z g-(a+1)) O;rw[(O:Z g-1-(Z g-(a+1))=a),(O:Z g-(a+1)+1=Z g-a)]at m;refine aD<|j<|au ?_;refine F<|rc J J t (z J ?_) (hp:=aF);refine F<|fT .q [_] J J (ra J J J J J J J J J ?_ ?_<|z J<|cY 6003000 J J J ?_)
  .show(1+Z (aA (Z g-a)<|kJ d g)+(1+Z (aA (Z g-a)<|kJ d g))/4+192)*64<=_;rw[Bd];omega
  .show(1+Z (aA (Z g-a)<|kJ d g))*4<=_;rw[Bd];omega
  refine cu<|rc J J u<|z J<|bw<|rt J (hp:=aF)<|aT (a+1) f (O:Z g-(a+1)<Z g-a)<|wk ⟨sR J,sR J,sE J ?_,sR J,sE J ?_,h⟩ ⟨bR J,bE J ?_,h⟩
  .rw[m,A,(O:Z g-1-a=Z g-(a+1))];rfl
  .exact be R (O:(Z g:G)-1-a-1=(Z g:G)-1-(a+1:Y))
  .rw[fK];rfl
 .have f:a=Z g:=by have f:¬(Z g:G)-1-(a:G)>=0:=a6 f;omega
  subst f;rw[lH,qu];exact a7<|aL<|N J<|cw J
def afM(a:Y->Bool):∀n,bZ a (n+1)=(if a 0 then 1 else 0)+bZ (λi=>a<|i+1) n
 |0=>by rw[bZ,bZ,bZ];omega
 |n+1=>by rw[bZ,afM a n,bZ];omega
def arM k n:bZ k.testBit (n+1)=k%2+bZ (k/2).testBit n:=by
 rw[afM];congr 1
 .rw[Nat.testBit_zero];rcases Nat.mod_two_eq_zero_or_one k with e|e<;>rw[e]<;>rfl
 .exact Jb λi _=>by rw[Nat.testBit_succ]
def afN(a:Y->Bool):∀n,bZ a n<=n
 |0=>aO _
 |n+1=>by have:=afN a n;rw[bZ];split<;>omega
def afO n:bZ (0:Y).testBit n=0:=by
 induction n with
 |zero=>rfl
 |succ n a=>rw[bZ,a,Nat.zero_testBit];rfl
def arN(k n:Y)(g:k<2^n)(s:n<=60):r q 210 [R k] (R<|bZ k.testBit n):=by
 refine aI Tryz.func210 ?_;have t:k<2^60:=iI g<|eQ D s;refine N J<|N J<|j<|N J ?_;refine au<|a8 (α:=Y×Y×Y) (λx=>⟨[(3,R x.1),(4,R x.2.1)],[],4,[]⟩) (λx=>x.2.1<2^x.2.2/\x.1+bZ x.2.1.testBit x.2.2=bZ k.testBit n/\x.2.1<=k) (λx=>x.2.1) (0,k,n) ⟨g,ff _,aO _⟩ aM ?_;rintro⟨o,m,l⟩ ⟨f,d,u⟩;simp only at f d u;have v:=afN k.testBit n;refine j<|N J<|al J (λa=>?_)<|λa=>?_
 .have a:0<m:=by have a:(m:G)>0:=aU a;omega
  obtain⟨i,rfl⟩:∃i,l=i+1:=by
   cases l with
   |zero=>rw[po]at f;omega
   |succ i=>exact⟨i,J⟩
  rw[arM]at d;rw[fO]at f;have p:(m:G).tmod 2=((m%2:Y):G):=mJ m 2;have y:(m:G).tdiv 2=((m/2:Y):G):=(Int.ofNat_tdiv m 2).symm;refine aD<|j<|au<|rt J (bw<|rt J<|aT (o+m%2,m/2,i) ⟨?_,?_,?_⟩ ?_<|wk ⟨sE J ?_,sE J ?_,h⟩ h) (hp:=?_)
  .show m/2<2^i;omega
  .show o+m%2+bZ (m/2).testBit i=_;omega
  .show m/2<=k;omega
  .show m/2<m;omega
  .show AV.c (C.I .i64<|(o:G)+(m:G).tmod 2)=_;rw[p];rfl
  .show AV.c (C.I .i64<|(m:G).tdiv 2)=_;rw[y]
  .show(_:Pr).h;simp only[Pr.an,Pr.h,num,gT,true_and,and_true];rw[p];omega
 .have a:m=0:=by have a:¬(m:G)>0:=a6 a;omega
  subst a;rw[afO,jy]at d;subst d;exact a7<|aL<|N J<|cw J
def ly(a g:V G):V G:=bc (Z a-Z g) 0++g.map (E a (Z a-1) 0*·)
def CV(g:V G)(x:V G×V G):V G×V G:=(aN<|lv x.1<|ly x.1 g,x.2.set (Z x.1-Z g)<|E x.1 (Z x.1-1) 0)
def wL(g:V G):Y->V G×V G->V G×V G
 |0,x=>x
 |n+1,x=>if Z x.1<Z g then x else wL g n (CV g x)
structure wM(f g:V G)(u v:Y)(x:V G×V G):Prop where
 can:can x.1
 eq:Rx.zx f=Rx.zx x.2*Rx.zx g+Rx.zx x.1
 ql:x.2.length=f.length+1-g.length
 fl:x.1.length<=f.length
 z:∀i,i+g.length<=x.1.length->x.2.getD i 0=0
 B:∀i,aH (u+(f.length-x.1.length)*(v+1)) (x.1.getD i 0)
def Pb{a g}(d:Z g<=Z a) i:E (ly a g) i 0=if Z a-Z g<=i then E a (Z a-1) 0*E g (i-(Z a-Z g)) 0 else 0:=by
 unfold ly;by_cases c:Z a-Z g<=i
 .rw[b c,aK,DG (by simpa using c),fo,<-aK];exact getD_map (f:=(E a (Z a-1) 0*·)) (gY _) g _
 .rw[w c,aK,DF b8,lM,b O];rfl
def arO{a g}(d:Z g<=Z a):Z (ly a g)=Z a:=by simp[ly];omega
def arP{a g}(d:Z g<=Z a):Rx.zx (ly a g)=Rx.K ((E a (Z a-1) 0:G):Rat)*(Rx.X (Z a-Z g)*Rx.zx g):=Rx.ext λi=>by
 rw[Rx.ll,Pb d,Rx.fh,Rx.nt];split
 .rw[Rx.ll,fZ]
 .rw[fH];rfl
def arQ a:Rx.zx (aN a)=Rx.zx a:=Rx.ext λi=>by rw[Rx.ll,Rx.ll];congr 1;rw[<-cH,qJ,cH]
def arR a d:Rx.zx (lv a d)=Rx.zx a-Rx.zx d:=Rx.ext λi=>by rw[Rx.lO,Rx.ll,Rx.ll,Rx.ll,F3,Nq]
section
variable{f g:V G}{u v:Y}
def wM.next(m:aJ g)(p:∀i,aH v (E g i 0)){x}(a:wM f g u v x)(A:¬Z x.1<Z g):wM f g u v (CV g x)/\(CV g x).1.length<Z x.1/\∀i,aH (u+(Z f-Z x.1)*(v+1)+v+1) (E (lv x.1<|ly x.1 g) i 0):=by
 have C:=bQ.2 m.1;have d:Z g<=Z x.1:=O;have n:∀i,aH (u+(Z f-Z x.1)*(v+1)+v+1) (E (lv x.1<|ly x.1 g) i 0):=λi=>by
  rw[F3,Pb d];split
  .exact((a.B i).le O).sub<|(a.B _).mul<|p _
  .rw[Bv];exact(a.B i).le O
 have k:∀i,Z x.1-1<=i->E (lv x.1<|ly x.1 g) i 0=0:=λi o=>by
  rw[F3,Pb d,b O];rcases aro o with e|e
  .rw[fp x.1 O,fp g O,gY];rfl
  .rw[<-e,(O:Z x.1-1-(Z x.1-Z g)=Z g-1),m.2,ns,Int.sub_self]
 have l:(CV g x).1.length<Z x.1:=by
  show Z (aN<|lv x.1<|ly x.1 g)<_;rcases Gt (lv x.1<|ly x.1 g)with e|e
  .rw[e];simp;omega
  .refine Nat.lt_of_not_le λH=>e ?_
   rw[<-cH,qJ,cH];exact k _ O
 have s:=a.ql;have t:=a.fl;refine⟨⟨Gt _,?_,by show(x.2.set _ _).length=_;rw[ru];exact a.ql,O,λi o=>?_,λi=>?_⟩,l,n⟩
 .show Rx.zx f=Rx.zx (x.2.set (Z x.1-Z g)<|E x.1 (Z x.1-1) 0)*Rx.zx g+Rx.zx (aN<|lv x.1<|ly x.1 g);rw[an3 _ O (a.z _ O),arQ,arR,arP d,a.eq,Rx.add_mul,Rx.mul_assoc (Rx.K _)<|Rx.X _];generalize Rx.K ((E x.1 (Z x.1-1) 0:G):Rat)*(Rx.X (Z x.1-Z g)*Rx.zx g)=y;rw[Rx.add_assoc,Rx.add_comm y,Rx.kA]
 .show(x.2.set (Z x.1-Z g) _).getD i 0=0;rw[uk _ _ _ _ O,w O];exact a.z i O
 .show aH _ (E (aN<|lv x.1<|ly x.1 g) i 0);rw[<-cH,qJ,cH];refine(n i).le ?_;have:(Z f-Z x.1+1)*(v+1)<=(Z f-(CV g x).1.length)*(v+1):=eC _ O;rw[gO,jn]at this;omega
def afP(d:aJ g)(k:∀i,aH v (E g i 0)):∀(n:Y)(x:V G×V G),wM f g u v x->Z x.1<n->wM f g u v (wL g n x)/\(wL g n x).1.length<Z g
 |0,x,_,m=>by omega
 |n+1,x,l,m=>by
  rw[wL];split
  .rename_i a;exact⟨l,a⟩
  .rename_i a;let ⟨o,p,_⟩:=l.next d k a;exact afP d k n _ o O
open Classical in
noncomputable def vb(f g:V G):V G:=if Rx.zx g∣Rx.zx f then mW f g else[]
def wM.start(d:Go.El.can f)(k:∀i,aH u (E f i 0)):wM f g u v (f,bc (Z f+1-Z g) 0):=by
 have a:∀m i,E (bc m (0:G)) i 0=0:=λm i=>by rw[aK,lM];split<;>rfl
 refine⟨d,?_,fo,aO _,λi _=>a _ i,λi=>(k i).le O⟩;rw[show Rx.zx (bc (Z f+1-Z g) (0:G))=0 from Rx.ext λi=>by rw[Rx.ll,a];rfl,Rx.zero_mul,Rx.zero_add]
def arS(o:aJ f)(n:aJ g)(B:∀i,aH u (E f i 0))(H:∀i,aH v (E g i 0)):(if(wL g (Z f+1) (f,bc (Z f+1-Z g) 0)).1=[]then(wL g (Z f+1) (f,bc (Z f+1-Z g) 0)).2 else[])=vb f g:=by
 let ⟨I,hl⟩:=afP (f:=f) (u:=u) n H (Z f+1) _ (wM.start o.can B)<|dK _;generalize wL g (Z f+1) (f,bc (Z f+1-Z g) 0)=x at*;have d:=Rx.n7 n;unfold vb;by_cases e:x.1=[]
 .rw[b e];have C:Rx.zx x.1=0:=by rw[e];exact Rx.kE
  have a:=I.eq;rw[C,Rx.add_zero]at a;rw[b ⟨_,a⟩];have k:Rx.Mo (Rx.zx x.2):=by have:=Rx.n7 o;rw[a]at this;exact this.zz d
  have K:=I.ql;have p:=Rx.eh k.ne d.ne;rw[<-a,Rx.ln o.can,Rx.ln n.can]at p;have m:aJ x.2:=by have L:Z x.2=Rx.sz (Rx.zx x.2):=O;have s:Rx.zx x.2 (Rx.sz (Rx.zx x.2)-1)=1:=k;have T:=Rx.fq k.ne;rw[<-L,Rx.ll]at s;exact⟨λe=>by have U:Z x.2=0:=be Z e;omega,xU.1 (s.trans Rat.intCast_one.symm)⟩
  have l:∃q,aJ q/\Rx.zx f=Rx.zx g*Rx.zx q:=⟨_,m,by rw[Rx.mul_comm];exact a⟩;have M:mW f g=Ci l:=by unfold mW;rw[dif_pos l]
  let ⟨c1,t⟩:=wb l;rw[<-M]at c1 t;exact(Rx.anL c1.can m.can<|Rx.zw d.ne<|by rw[<-a,t,Rx.mul_comm]).symm
 .rw[w e,w λy=>e ?_];have a:=I.eq;rw[a]at y;have P:=Rx.uD y<|Rx.dvd_mul_left _ _;have Q:=Rx.uG P (by rw[Rx.ln n.can,Rx.ln I.can];exact hl);have A:=Rx.ln I.can;rw[Q,Rx.k8]at A;exact eT A.symm
def arT t(a:t<=1000):(Z (bc t (0:G))+1+(Z (bc t (0:G))+1)/4+192)*32<=281474976710656:=by rw[fo];omega
def arU t(a:t<=1000):(Z (bc t (0:G))+1)*2<=140737488355328:=by rw[fo];omega
def afQ(a:V G)(d:Z a<=200):(Z a+1+(Z a+1)/4+192)*32<=281474976710656:=O
def afR(a:V G)(d:Z a<=200):(Z a+1)*2<=140737488355328:=O
def arV(hf:aJ f)(hg:aJ g)(hu:∀i,aH u (E f i 0))(U:∀i,aH v (E g i 0))(lf:Z f<=100)(lg:Z g<=100)(u9:u<=1000)(v9:v<=100):r q 213 [I .z f,I .z g] (I .z<|vb f g):=by
 rw[<-arS hf hg hu U];have I0:=wM.start (u:=u) (v:=v) (g:=g) hf.can hu;have pg:=bQ.2 hg.1;have pf:=bQ.2 hf.1;generalize hm:Z f+1-Z g=m at*;have hv9:(v+1)*100<=10100:=O;generalize hX:wL g (Z f+1) (f,bc m 0)=X;refine DS Tryz.func213 J J J J J D ?_;refine N J<|F<|rm .z m J J J J J J LI ?_ ?_ ?_<|z J<|j<|N J ?_
 .rw[b J];split<;>omega
 .show m*32<=_;omega
 .show m*2<=_;omega
 refine au<|a8 (α:=Y) (λi=>⟨[(0,I .z f),(1,I .z g),(5,.c<|.X 1007000),(6,R i)],[(1007000,.vec 42 .z<|bc m 0)],3,[]⟩) (λi=>i<=m) (λi=>m-i) 0 (aY _) aM ?_;intro i hi;refine j<|N J<|al J (λl=>?_)<|λl=>?_
 .have l:i<m:=by have l:(i:G)<(Z (bc m (0:G)):G):=aU l;rw[fo]at l;omega
  refine cP<|aL<|j<|au<|cu<|rc J J (jq 0 D D)<|vO (T:= .z) (0:G) J J J J J ?_ (z J<|eE<|aL<|rt J (hp:=aF)<|aT (i+1) l (O:m-(i+1)<m-i)<|wk (bO J) ⟨bE J ?_,h⟩) (hp:=?_)
  .show af ((i:G))<_;rw[fo];omega
  .refine be (aG.vec 42 .z)<|rF az λk o p=>?_;rw[List.getElem_set];split<;>simp
  .simp only[Pr.an,Pr.h,num,gT,true_and,and_true];rw[fo];omega
 have l:i=m:=by have l:¬(i:G)<(Z (bc m (0:G)):G):=a6 l;rw[fo]at l;omega
 subst l;refine nN<|rA<|ou<|nO<|aL ?_;refine j<|au<|a8 (α:=Y×V G×V G) (λy=>⟨[(0,I .z y.2.1),(1,I .z g),(5,.c<|.X 1007000)],[(1007000,.vec 42 .z y.2.2)],8,[]⟩) (λy=>wM f g u v y.2/\Z y.2.1<y.1/\wL g y.1 y.2=X) (λy=>y.1) (Z f+1,f,bc i 0) ⟨I0,dK _,hX⟩ aM ?_;rintro⟨n,a,Q⟩ ⟨C,hn,x⟩;simp only at C hn x;have hFl:Z a<=Z f:=C.fl;obtain⟨n,rfl⟩:∃n',n=n'+1:=⟨n-1,O⟩;rw[wL]at x;refine j<|N J<|al J (λl=>?_)<|λl=>?_
 .have l:Z g<=Z a:=by have l:(Z a:G)>=(Z g:G):=aU l;omega
  rw[w (O:¬Z a<Z g)]at x;obtain⟨n1,S,n3⟩:=C.next hg U (O:¬Z a<Z g);have H:=C.B;have Ma:Z Q=Z f+1-Z g:=C.ql;obtain⟨k,hk⟩:∃k,Z a=Z g+k:=⟨Z a-Z g,O⟩;have s:∀d,aH 12000 (E a d 0):=λd=>(H d).le (by have:=eC (v+1) (O:Z f-Z a<=100);show u+(Z f-Z a)*(v+1)<=_;omega)
  have hSB:∀d,aH 13000 (E (lv a<|ly a g) d 0):=λd=>(n3 d).le (by have:=eC (v+1) (O:Z f-Z a<=100);show u+(Z f-Z a)*(v+1)+v+1<=_;omega)
  have K:∀d,aH 12200 (E (ly a g) d 0):=λd=>by
   rw[Pb l];split
   .exact((s _).mul<|U _).le O
   .exact aH.zero _
  have hTl:=arO l;have VJ:=afz a (ly a g) 13000 D O O (λd=>(s d).le D)<|λd=>(K d).le D;have hc:E a (af<|(Z a:G)-1) 0=E a (Z a-1) 0:=by rw[(O:af ((Z a:G)-1)=Z a-1)]
  have hT:ly a g=bc k 0++g.map (E a (Z a-1) 0*·):=by unfold ly;rw[(O:Z a-Z g=k)]
  have hN:CV g (a,Q)=(aN<|lv a<|ly a g,Q.set k<|E a (Z a-1) 0):=by unfold CV;show(aN<|lv a<|ly a g,Q.set (Z a-Z g)<|E a (Z a-1) 0)=_;rw[(O:Z a-Z g=k)]
  have hcS:=(s<|Z a-1).sm D;have hgS:∀d,Sm (E g d 0):=λd=>(U d).sm O
  rw[hN]at n1 S x;clear s hSB K H n3;generalize hW:aN (lv a<|ly a g)=W at*;generalize hTq:ly a g=T at*;generalize VO:E a (Z a-1) 0=c at*;refine cP<|aL<|au<|N J<|N J ?_ (hp:=aF);rw[hc];clear hc VO hX I0 hi hTq hW;refine F<|vO (T:= .z) c J J J J J ?_ (z J ?_) (hp:=?_)
  .show af ((Z a:G)-(Z g:G))<Z Q;omega
  .refine F<|fT .z [] J J (z J<|j<|N J ?_);rw[(O:af ((Z a:G)-(Z g:G))=k),(O:(Z a:G)-(Z g:G)=(k:G))];refine au<|a8 (α:=Y) (λt=>⟨[(0,I .z a),(1,I .z g),(5,.c<|.X 1007000),(7,R k),(8,.c<|.P 10006000 0),(9,.c<|.X 12000000),(10,R t)],[(10006000,.box 42 0<|av .z c),(12000000,.vec 42 .z<|bc t 0),(1007000,.vec 42 .z<|Q.set k c)],14,[]⟩) (λt=>t<=k) (λt=>k-t) 0 (aY _) (wk (bO J) ⟨bE J J,bR J,bR J,h⟩) ?_;intro t ht;have A:t<=1000:=O;refine j (N J<|al J (λo=>?_)<|λo=>?_)
   .have o:t<k:=by have o:(t:G)<(k:G):=aU o;omega
    refine cP<|aL<|j<|au<|cu<|rc J J (jq 0 D D)<|rl .z [(0:G)] J J (ra J J J J J J J J J ?_ ?_<|z J ?_)
    .exact arT t A
    .exact arU t A
    refine eE<|aL<|rt J<|aT (t+1) o (O:k-(t+1)<k-t)<|Wk.trans (wk (st':=⟨[(0,I .z a),(1,I .z g),(5,.c<|.X 1007000),(7,R k),(8,.c<|.P 10006000 0),(9,.c<|.X 15003000),(10,R ((t+1:Y):G))],[(10006000,.box 42 0<|av .z c),(15003000,.vec 42 .z<|bc (t+1) 0),(1007000,.vec 42 .z<|Q.set k c)],24,[]⟩) (bO J) ⟨bR J,bE J ?_,bR J,h⟩)<|Wk.trans (fU 12000000 15003000 J J J) aM;rw[List.replicate_succ']
   have o:t=k:=by have o:¬(t:G)<(k:G):=a6 o;omega
   subst o;refine nN<|rA<|ou<|nO<|aL<|j<|N J ?_;have L:(g.map (c*·)).length=Z g:=cy _;refine au<|a8 (α:=Y) (λd=>⟨[(0,I .z a),(1,I .z g),(5,.c<|.X 1007000),(8,.c<|.P 10006000 0),(9,.c<|.X 12000000),(11,R d)],[(10006000,.box 42 0<|av .z c),(12000000,.vec 42 .z<|bc t 0++(g.map (c*·)).take d),(1007000,.vec 42 .z<|Q.set t c)],20,[]⟩) (λd=>d<=Z g) (λd=>Z g-d) 0 (aY _) (wk (bO J) ⟨bR J,bE J ?_,bR J,h⟩) ?_
   .rw[H4,iD]
   intro d hj;have M:(bc t (0:G)++(g.map (c*·)).take d).length<=200:=by rw[iq,fo,eL,L];omega
   refine j<|N J<|al J (λp=>?_)<|λp=>?_
   .have p:d<Z g:=by have p:(d:G)<(Z g:G):=aU p;omega
    have ej:af ((d:G))=d:=bY d;have rI:=kZ c (E g (af<|(d:G)) 0) hcS<|hgS _;have hV1:bc t (0:G)++(g.map (c*·)).take (d+1)=bc t (0:G)++(g.map (c*·)).take d++[c*E g (af<|(d:G)) 0]:=by rw[rU (g.map (c*·)) d O,getD_map (f:=(c*·))<|gY c,ej,l7]
    clear L A;generalize bc t (0:G)++(g.map (c*·)).take d=CU at*;refine cP<|aL<|j<|au<|cu<|rc J J rI (rl .z [_] J J (ra J J J J J J J J J ?_ ?_<|z J ?_)) (hp:=aF)
    .exact afQ CU M
    .exact afR CU M
    refine eE<|aL<|rt J<|aT (d+1) p (O:Z g-(d+1)<Z g-d)<|Wk.trans (wk (st':=⟨[(0,I .z a),(1,I .z g),(5,.c<|.X 1007000),(8,.c<|.P 10006000 0),(9,.c<|.X 21008000),(11,R ((d+1:Y):G))],[(10006000,.box 42 0<|av .z c),(21008000,.vec 42 .z<|bc t 0++(g.map (c*·)).take (d+1)),(1007000,.vec 42 .z<|Q.set t c)],32,[]⟩) (bO J) ⟨bR J,bE J ?_,bR J,h⟩)<|Wk.trans (fU 12000000 21008000 J J J) aM;rw[hV1]
   .have p:d=Z g:=by have p:¬(d:G)<(Z g:G):=a6 p;omega
    subst p;rw[iY O,<-hT];refine nN<|rA<|ou<|nO<|aL<|cY 12000000 J J J<|cu<|rc J J VJ<|z J<|eE<|aT (n,W,Q.set t c) ⟨n1,?_,x⟩ (dK n) aM;show Z W<n;have S:Z W<Z a:=S;omega
  .simp only[Pr.an,Pr.h,num,gT,true_and,and_true];omega
 .have l:Z a<Z g:=by have l:¬(Z a:G)>=(Z g:G):=a6 l;omega
  rw[b l]at x;subst x;refine nN<|rA<|ou<|nO<|aL<|j<|N J<|al J (λo=>?_)<|λo=>?_
  .have o:a≠[]:=λe=>by have o:(Z a:G)>0:=aU o;rw[e]at o;exact absurd o D
   rw[w o];exact N J<|bL<|cK<|ig cv J<|bl.nil .z
  .have o:a=[]:=eT (by have o:¬(Z a:G)>0:=a6 o;omega);rw[b o];exact cP<|aL<|cY 1007000 J J J<|N J<|bL<|ig cv J<|bl.refl _
end
open Fx
def ar1{m}{a}{l}{d}(i:d∈mm (Z l))(k:Rx.zx (gS m l d.testBit)∣Rx.zx a)(n:∀T∈mm (Z l),bZ T.testBit (Z l)<bZ d.testBit (Z l)\/(bZ T.testBit (Z l)=bZ d.testBit (Z l)/\T<d)->¬Rx.zx (gS m l T.testBit)∣Rx.zx a):tv m a l=some d:=by
 classical
 let ⟨us,ws,e⟩:=P4 i;unfold tv;refine List.find?_eq_some_iff_append.2 ⟨o9 k,us,ws,e,λT f=>?_⟩;have g:=ap2<|Z l;rw[e]at g;have o:=(xZ.1 g).2.2 T f d az;rw[GY,decide_eq_false_iff_not];exact n T (by rw[e];simp[f]) o
def ar2{m}{a}{l}(d:∀T∈mm (Z l),¬Rx.zx (gS m l T.testBit)∣Rx.zx a):tv m a l=none:=by
 classical
 unfold tv;refine List.find?_eq_none.2 λT f=>?_
 rw[decide_eq_true_iff];exact d T f
def kj(m:G)(l:V (V G))(a:Y->Bool)(i:Y):V G:=(kI m [1] (bJ a 0<|c i l)).map (dH · m)
def tE(l:V (V G))(a:Y->Bool)(i:Y):V (V G):=bJ (λi=> !a i) 0<|c i l
def VP{l}{i}(f:i<Z l)(a:Y->Bool):bJ a 0 (c (i+1) l)=bJ a 0 (c i l)++(if a i then[l.getD i []]else[]):=by
 have d:c (i+1) l=c i l++[l.getD i []]:=by rw[sH,aK,cO f];rfl
 rw[d,acb];congr 1;rw[bJ,bJ,(b8:0+(c i l).length=i)]
def ar3{l}{i}(d:i<Z l)(a:Y->Bool):tE l a (i+1)=if a i=ae then tE l a i else tE l a i++[l.getD i []]:=by unfold tE;rw[VP d];cases a i<;>simp
def afS{m}(d:1<m){l}(k:∀f∈l,aJ f)(a:Y->Bool) i:aJ (kI m [1] (bJ a 0<|c i l))/\aJ (kj m l a i)/\Z (kj m l a i)=1+dD (bJ a 0<|c i l):=by let ⟨g,h2⟩:=z6 d Cs (λf n=>k f (vi<|xY n):∀f∈bJ a 0 (c i l),aJ f);refine⟨g,Cp d g,?_⟩;unfold kj;rw[cy,h2];rfl
def ar4{m}(n:1<m){l}(g:∀f∈l,aJ f){i}(h:i<Z l)(a:Y->Bool):(a i=ah->kj m l a (i+1)=kj m l a i)/\(a i=ae->(lN (kj m l a i)<|l.getD i []).map (dH · m)=kj m l a (i+1)):=by
 constructor
 .intro e;unfold kj;rw[VP h,e];simp
 .intro e;have d:l.getD i []∈l:=TD;have o:=g _ d;let ⟨t1,t2,t3⟩:=afS n g a i;have p:kj m l a (i+1)=(tr (kI m [1] (bJ a 0<|c i l)) (l.getD i []) m).map (dH · m):=by unfold kj;rw[VP h,e,b J,acd];rfl
  rw[p];refine anO O ?_ λj=>?_
  .rw[I9,TY];have:Z (kj m l a i)=Z (kI m [1] (bJ a 0<|c i l)):=by unfold kj;rw[cy]
   rw[this]
  .have s:Cg m (ps<|lN (kj m l a i)<|l.getD i []) (ps<|tr (kI m [1] (bJ a 0<|c i l)) (l.getD i []) m):=by
    rw[ab5 _ _ t2.1 o.1];refine(Cg.BM ?_ _).trans (TX _ _ _).symm;refine Cg.of λk=>?_
    unfold kj;rw[cH,cH,qW _ O,z5 O]
   exact s.at j
def ar5(a i:Y)(k:i<=60):((((a:G).fdiv<|2^min (af<|(i:G)) IntKind.i64.bits).tmod 2)==1)=oU a i:=by
 have d:min (af<|(i:G)) IntKind.i64.bits=i:=by show min _ 64=_;omega
 have f:((2:G)^i)=((2^i:Y):G):=by rw[uv];rfl
 have g:(a:G).fdiv ((2^i:Y):G)=((a/2^i:Y):G):=by rw[BD _ (qR _),xv]
 rw[d,f,g,show(2:G)=((2:Y):G)from J,mJ,Nat.testBit_eq_decide_div_mod_eq];generalize a/2^i%2=z;by_cases h:z=1
 .rw[h];rfl
 .rw[nr h];exact beq_eq_false_iff_ne.2<|λe=>h O
def afT(a:Y->Bool):∀(l:V (V G))(i:Y),Z (bJ a i l)<=Z l
 |[],_=>aO _
 |f::l,i=>by have:=afT a l<|i+1;rw[bJ];split<;>simp<;>omega
def ar6(a:Y->Bool) l i:dD (bJ a 0<|c i l)<=dD l:=by
 have d:=N3 a (c i l) 0;have f:dD (c i l)+dD (aA i l)=dD l:=by rw[<-OV,sI]
 omega
def ar7{n T}(a:T<2^n)(d:1<=bZ T.testBit n)(f:2*bZ T.testBit n<=n):T∈mm n:=z8.2 ⟨a,d,O⟩
def VQ(m:G):∀(k:Y)(a:V G)(l:V (V G)),Z (sc m k a l)<=k+1
 |0,a,l=>aO _
 |k+1,a,l=>by
  rw[sc];cases tv m a l with
  |none=>simp
  |some d=>have:=VQ m k (mW a<|gS m l d.testBit)<|bJ (λi=> !d.testBit i) 0 l;simp;omega
def afU{p:Y}{m:G}{w:Y}(w1:1<=w)(w9:w<=100)(H:aH w m):∀(k:Y)(a:V G)(l:V (V G)),k<=100->Z l<=k->l≠[]->Z l<=8->Z a<=9->g5 p m a l->(∀f∈l,∀i,aH w (E f i 0))->r q 178 [I .z a,I (.sl .z) l,aZ m] (I (.sl .z)<|sc m k a l)
 |0,a,l,_,y,v,_,_,_,_=>absurd (eT O) v
 |k+1,a,l,av3,hk,v,l8,a9,C,hlB=>by
  let ⟨m1,LL⟩:=C.m1;have IH:=λa l=>afU (p:=p) w1 w9 H k a l
  rw[sc];refine aI Tryz.func178 ?_;refine N J<|j<|N J ?_;refine au<|a8 (α:=Y) (λs=>⟨[(0,I .z a),(1,I (.sl .z) l),(5,.c<|.P 0 0),(7,R s)],[(0,.box 42 0<|av .z m)],2,[]⟩) (λs=>1<=s/\s<=9/\∀T∈mm (Z l),bZ T.testBit (Z l)<s->¬Rx.zx (gS m l T.testBit)∣Rx.zx a) (λs=>20-s) 1 ⟨aO _,D,λT u y=>absurd (z8.1 u).2.1 O⟩ (wk (bO J) ⟨bE J J,h⟩) ?_;rintro s ⟨s1,s9,hs⟩;refine j<|N J<|al J (λy=>?_)<|λy=>?_
  .have y:2*s<=Z l:=by have y:2*(s:G)<=(Z l:G):=aU y;omega
   refine aD<|j<|au<|N J ?_;refine au<|a8 (α:=Y) (λd=>⟨[(0,I .z a),(1,I (.sl .z) l),(5,.c<|.P 0 0),(7,R s),(8,R d)],[(0,.box 42 0<|av .z m)],5,[]⟩) (λd=>1<=d/\d<=2^Z l/\∀T∈mm (Z l),(bZ T.testBit (Z l)<s\/(bZ T.testBit (Z l)=s/\T<d))->¬Rx.zx (gS m l T.testBit)∣Rx.zx a) (λd=>2^Z l-d) 1 ⟨aO _,VR,λT u t=>hs T u ?_⟩ aM ?_
   .rcases t with t|⟨t,x⟩
    .exact t
    .have e:T=0:=by omega
     subst e;rw[afO]at t;omega
   rintro d ⟨q1,q2,S⟩;have hp8:2^Z l<=2^8:=eQ D l8;have A:IntKind.i64.wrap (1*2^min (af<|(Z l:G)) IntKind.i64.bits)=((2^Z l:Y):G):=by have:∀n:Fin 9,IntKind.i64.wrap (1*2^min (af<|((n:Y):G)) IntKind.i64.bits)=((2^(n:Y):Y):G):=D;exact this ⟨Z l,O⟩
   refine j<|N J<|al J (λt=>?_)<|λt=>?_
   .have t:d<2^Z l:=by have t:(d:G)<IntKind.i64.wrap (1*2^min (af<|(Z l:G)) IntKind.i64.bits):=aU t;rw[A]at t;omega
    clear A;have hon:=arN d (Z l) t O;refine aD<|j<|au<|j<|bt J J hon J<|al J (λx=>?_)<|λx=>cP<|aL ?_
    .have x:bZ d.testBit (Z l)≠s:=λe=>by have x:((bZ d.testBit (Z l):Y):G)≠(s:G):=bne_iff_ne.1 x;omega
     refine nN<|rA<|nO<|aL<|rt J<|aT (d+1) ⟨O,O,λT u g=>S T u ?_⟩ (O:2^Z l-(d+1)<2^Z l-d) aM;rcases g with g|⟨g,o⟩
     .exact .inl g
     .by_cases e:T=d
      .exact absurd (e▸g) x
      .exact .inr ⟨g,O⟩
    have x:bZ d.testBit (Z l)=s:=by
     have x:¬((bZ d.testBit (Z l):Y):G)≠(s:G):=λe=>by have x:(((bZ d.testBit (Z l):Y):G) !=(s:G))=ah:=x;rw[bne_iff_ne.2 e]at x;cases x
     omega
    have hg0:kj m l d.testBit 0=[1]:=by show([1]:V G).map (dH · m)=[1];rw[il,ab9 m1,JU]
    refine F<|rc J J (jq 1 D D)<|rl .z [(1:G)] J J (z J<|F<|fT (.sl .z) [] J J (z J<|j<|N J ?_));refine au<|a8 (α:=Y) (λi=>⟨[(0,I .z a),(1,I (.sl .z) l),(5,.c<|.P 0 0),(7,R s),(8,R d),(9,I .z<|kj m l d.testBit i),(10,.c<|.X 8000000),(11,R i)],[(0,.box 42 0<|av .z m),(8000000,.vec 161 (.sl .z)<|tE l d.testBit i)],10,[]⟩) (λi=>i<=Z l) (λi=>Z l-i) 0 (aY _) (by rw[hg0];exact aM) ?_;intro i hi;refine j<|N J<|al J (λg=>?_)<|λg=>?_
    .have g:i<Z l:=by have g:(i:G)<(Z l:G):=aU g;omega
     have hbq:=ar5 d i O;have ei:af ((i:G))=i:=bY i;have Bh:(E l (af<|(i:G))<|ET.dE<|.sl .z)=l.getD i []:=be (λiC=>l.getD iC []) ei;have B:l.getD i []∈l:=by rw[aK,cO g];exact sF g
     let ⟨t1,t2,t3⟩:=afS m1 C.lm d.testBit i;let ⟨u1,u2⟩:=ar4 m1 C.lm g d.testBit;have K:=ar3 g d.testBit;have hxm:=C.lm _ B;have hxB:=hlB _ B;have L:∀M,aH w (E (kj m l d.testBit i) M 0):=λM=>by unfold kj;rw[qW _ O];exact SP O H
     have Ao:Z (kj m l d.testBit i)<=9:=by have:=ar6 d.testBit l i;have:=C.len;omega
     have CL:(l.getD i []).length<=9:=by have:=afJ B;have:=C.len;omega
     have Ip:Z (tE l d.testBit i)<=8:=by have:=afT (λi=> !d.testBit i) (c i l) 0;have Q:(c i l).length<=Z l:=b8;show Z (bJ _ 0<|c i l)<=8;omega
     have W:=aao (kj m l d.testBit i) (l.getD i []) w w O O O L hxB;rw[(t2.ab7 hxm).trim]at W;have v:=SQ (lN (kj m l d.testBit i)<|l.getD i []) m (w+w+1) O (by rw[I9];omega) O (ab6 _ _ w w L hxB O O)<|H.le O;rw[(Cp m1<|t2.ab7 hxm).trim]at v;rw[<-Bh]at W v K u2;refine aD<|j<|au<|N J<|al J (λo=>?_)<|λo=>?_
     .have o:oU d i=ae:=hbq▸o;rw[u2 o]at v;refine cu<|rc J J W (rc J J v<|z J<|bw<|rt J<|aT (i+1) g wm<|wk (bO J) ⟨bR J,bE J ?_,h⟩) (hp:=aF);rw[K,b o]
     .have o:oU d i=ah:=hbq▸o;rw[o]at K;refine cu (rl (.sl .z) [_] J J (ra J J J J J J J J J ?_ ?_<|z J ?_) (hp:=aF))
      .show(Z (tE l d.testBit i)+1+(Z (tE l d.testBit i)+1)/4+192)*24<=_;omega
      .show(Z (tE l d.testBit i)+1)*1<=_;omega
      refine bw<|rt J<|aT (i+1) g wm<|Wk.trans (wk (st':=⟨[(0,I .z a),(1,I (.sl .z) l),(5,.c<|.P 0 0),(7,R s),(8,R d),(9,I .z<|kj m l d.testBit<|i+1),(10,.c<|.X 12006000),(11,R ((i+1:Y):G))],[(0,.box 42 0<|av .z m),(12006000,.vec 161 (.sl .z)<|tE l d.testBit<|i+1)],24,[]⟩) ⟨sR J,sR J,sR J,sR J,sR J,sE J ?_,sR J,sR J,h⟩ ⟨bR J,bE J ?_,h⟩)<|Wk.trans (fU 8000000 12006000 J J J) aM
      .rw[u1 o]
      .rw[K];rfl
    .have g:i=Z l:=by have g:¬(i:G)<(Z l:G):=a6 g;omega
     subst g;have hgE:kj m l d.testBit (Z l)=gS m l d.testBit:=by unfold kj gS;rw[fR]
     have hrE:tE l d.testBit (Z l)=bJ (λi=> !d.testBit i) 0 l:=by unfold tE;rw[fR]
     rw[hgE,hrE];let ⟨gm,gl⟩:=C.Ct d.testBit;have Ao:Z (gS m l d.testBit)<=9:=by have Q:=N3 d.testBit l 0;have:=C.len;omega
     have L:∀M,aH w (E (gS m l d.testBit) M 0):=λM=>by unfold gS;rw[qW _ O];exact SP O H
     have haB:∀M,aH w (E a M 0):=λM=>by have:=C.bd a C.am (Rx.dvd_refl _) M;unfold aH at*;omega
     have hqu:=arV C.am gm haB L O O O O;have hS:d∈mm (Z l):=ar7 t O O;refine nN<|rA<|ou<|nO<|aL<|cY 8000000 J J J<|F<|rc J J hqu<|z J<|N J<|al J (λo=>?_)<|λo=>?_
     .have U:Rx.zx (gS m l d.testBit)∣Rx.zx a:=eZ λhn=>by
       have o:(Z (vb a<|gS m l d.testBit):G)>0:=aU o;have e:vb a (gS m l d.testBit)=[]:=by unfold vb;rw[Aw hn]
       rw[e]at o;exact absurd o D
      have hqE:vb a (gS m l d.testBit)=mW a (gS m l d.testBit):=by unfold vb;rw[b U]
      have ase:=ar1 (a:=a) hS U (λT u y=>S T u<|by rw[x]at y;exact y);let ⟨c1,c2,c3,c4⟩:=C.rest hS U;have c5:Z (mW a<|gS m l d.testBit)<=9:=by have Q:=N3 d.testBit l 0;have h7:=c2.len;have:=C.len;omega
      have ih:=IH (mW a<|gS m l d.testBit) (bJ (λi=> !d.testBit i) 0 l) O O c3 O c5 c2<|λf hf=>hlB f<|xY hf;rw[ase,hqE];have sK:Z (sc m k (mW a<|gS m l d.testBit)<|bJ (λi=> !d.testBit i) 0 l)<=1000:=by have:=VQ m k (mW a<|gS m l d.testBit)<|bJ (λi=> !d.testBit i) 0 l;omega
      refine F<|fT (.sl .z) [_] J J (rc J J ih<|ra J J J J J J J J J ?_ ?_<|z J<|cY 13006000 J J J<|bL ?_)
      .show(1+Z (sc m k (mW a<|gS m l d.testBit)<|bJ (λi=> !d.testBit i) 0 l)+(1+Z (sc m k (mW a<|gS m l d.testBit)<|bJ (λi=> !d.testBit i) 0 l))/4+192)*24<=_;omega
      .show(1+Z (sc m k (mW a<|gS m l d.testBit)<|bJ (λi=> !d.testBit i) 0 l))*1<=_;omega
      repeat(first|refine cK ?_|refine kX ?_|refine lI ?_)
      exact eJ J J
     .have U:¬Rx.zx (gS m l d.testBit)∣Rx.zx a:=λU=>by
       have o:¬(Z (vb a<|gS m l d.testBit):G)>0:=a6 o;have e:vb a (gS m l d.testBit)=mW a (gS m l d.testBit):=by unfold vb;rw[b U]
       let ⟨_,c2,_⟩:=C.rest hS U;have:=bQ.2 c2.am.1;rw[e]at o;omega
      refine cP<|bw<|rt J<|aT (d+1) ⟨O,O,λT u Q=>?_⟩ (O:2^Z l-(d+1)<2^Z l-d) aM;rcases Q with Q|⟨Q,h7⟩
      .exact S T u<|.inl Q
      .by_cases e:T=d
       .rw[e];exact U
       .exact S T u<|.inr ⟨Q,O⟩
   .have t:2^Z l<=d:=by have t:¬(d:G)<IntKind.i64.wrap (1*2^min (af<|(Z l:G)) IntKind.i64.bits):=a6 t;rw[A]at t;omega
    refine a7<|bw<|rt J<|aT (s+1) ⟨O,O,λT u Q=>S T u ?_⟩ (O:20-(s+1)<20-s) aM;have:=(z8.1 u).1;omega
  .have y:Z l<2*s:=by have y:¬2*(s:G)<=(Z l:G):=a6 y;omega
   have OS:=ar2 (m:=m) (a:=a) (l:=l) (λT u=>hs T u<|by have:=(z8.1 u).2.2;omega);rw[OS];exact a7<|aL<|F<|rl (.sl .z) [a] J J (z J<|cw J)
end Go.El
