/- Contracts: the reference's radical, and its factors modulo p. Own work; no condition. -/
import Derived.Test.YtceihkmakfdcnaaGreatA12
import Derived.Test.YtceihkmakfdcnaaGreatA6
import Derived.Test.YtceihkmakfdcnaaGreatA7
import Derived.Test.YtceihkmakfdcnaaGreatA9
import Derived.Test.YtceihkmakfdcnaaGreatA8
import Derived.Test.YtceihkmakfdcnaaGreatA11
set_option linter.all false
set_option maxHeartbeats 16000000
set_option maxRecDepth 100000
open Bool renaming false->ah,true->af
open Classical renaming choose->A2
open Go.El renaming cS->I,rr->N,asM->R,Pb->U,iO->o,re->s,cI->j,rb->w,Cy->y
open Go.Proofs.Tryz renaming prog->z,func206->adH
open Int renaming toNat->ae,natAbs->aC
open List renaming length->Z,getD->E,take->h,range->cc,drop->az,replicate->bp,mem_range'_1->aqa
open Nat renaming lt_or_eq_of_le->apc,testBit->m6,gcd->nb
open _root_ renaming Nat->Y,List->V,Int->O,Rat->D
namespace Go.El
open Go Go.Proofs Go.RowKit Fx
section
variable{p:Y}(H:bq p)
include H in
def Ub:∀(Q:Y)(f:V O),Z f<Q->Z f<=200->Mon p f->∃W,q' p f W/\al z 206 [I au f,cU p] (I au W)
 |0,_,h,_,_=>by omega
 |Q+1,f,hN,lf,d=>by
  have IG:=H.hp.1;have x:=H.le;by_cases o:Z f<=1
  .refine⟨f,q'.one H d o,?_⟩;refine CC adH J J J J J T ?_;refine N J<|U<|N J<|y J (λh=>N J<|bI<|cA<|gZ cq J<|bf.refl _)<|λh=>?_;exfalso;have h:¬(Z f:O)<=1:=aT h;omega
  have k:=adu f p G G x d.c.1;have i:bs p (aS<|jq p f):=km H.pos<|Iz G f;have hDl:Z (aS<|jq p f)<=200:=by have:=oB<|jq p f;rw[Iy]at this;omega
  have A:(fx (aS<|jq p f):Fx p)=bt (fx f):=by rw[DY,TC]
  have l:aS (jq p f)=[]->bt (fx f:Fx p)=0:=an2 H;generalize aS (jq p f)=D at*;by_cases t:D=[]
  .obtain⟨e1,e2,e3,e4⟩:=acC H d G<|l t;obtain⟨W,r1,r2⟩:=Ub Q _ G G e1;refine⟨W,r1.root H d G<|l t,?_⟩;have B:Z (lW p f<|jb p<|Z f)=jb p (Z f):=by simp[lW]
   have hk:∀a,a<jb p (Z f)↔a*p<Z f:=λa=>by unfold jb;rw[<-Nat.add_one_le_iff,Nat.le_div_iff_mul_le G,NZ];omega
   have C:∀a,a<jb p (Z f)->E (lW p f<|jb p<|Z f) a 0=E f (a*p) 0:=λa hj=>by unfold lW;rw[aV,iT,kS hj];rfl
   rw[B]at e3 e4;generalize lW p f (jb p<|Z f)=L at*;generalize jb p (Z f)=m at*;subst t;refine CC adH J J J J J T ?_;refine N J<|U<|N J<|y J (λh=>?_)<|λh=>cZ<|aO ?_
   .exfalso;have h:(Z f:O)<=1:=aK h;omega
   refine w<|rc J J k<|s J<|U<|N J<|y J (λ_=>?_)<|λh=>er;refine w<|fg au [] J J (s J<|U<|N J ?_);refine R<|aY (α:=Y) (λa=>⟨[(0,I au f),(1,cU p),(6,.c<|.X 4000000),(7,j ((a*p:Y):O))],[(4000000,.vec 150 au<|List.take a L)],6,[]⟩) (λa=>a<=m) (λa=>m-a) 0 (be _) (by rw[rM];exact aH) ?_;intro a hj;have hl:(List.take a L).length=a:=bX;refine U<|N J<|y J (λh=>?_)<|λh=>?_
   .have h:a*p<Z f:=by have h:((a*p:Y):O)<(Z f:O):=aK h;omega
    have F:=(hk a).2 h;have ei:ae (((a*p:Y):O))=a*p:=bW _;refine cZ<|aO<|U<|R<|bT<|rl au [_] J J (ra J J J J J J J J J ?_ ?_<|s J ?_) (hp:=aF)
    .show(_+1+(_+1)/4+192)*8<=_;omega
    .show(_+1)*1<=_;omega
    refine eH<|aO<|rt J (hp:=aF)<|aG (a+1) F (G:m-(a+1)<m-a)<|Wk.trans (wk (st':=⟨[(0,I au f),(1,cU p),(6,.c<|.X 7006000),(7,j (((a+1)*p:Y):O))],[(7006000,.vec 150 au<|List.take (a+1) L)],16,[]⟩) ⟨sR J,sR J,sR J,sE J ?_,e⟩ ⟨bE J ?_,e⟩)<|Wk.trans (fa 4000000 7006000 J J J) aH
    .refine im (show((a*p:Y):O)+(p:O)=(((a+1)*p:Y):O)from ?_);rw[NZ];omega
    .refine a8 (aN.vec 150 au) ?_;rw[qM _ a G,C a F,ei]
   .have h:¬a*p<Z f:=by have h:¬((a*p:Y):O)<(Z f:O):=aT h;omega
    have q:a=m:=by have:=mt (hk a).1 h;omega
    subst q;rw[iK G];exact kJ<|m8<|nK<|kK<|aO<|c6 4000000 J J J<|w<|rc J J r2<|s J<|bI<|cA<|gZ cq J<|bf.refl _
  .obtain⟨u,m2,m3,_⟩:=yG H d.c i d.ne;obtain⟨q1,q2,q3,q4⟩:=sf H d u m2;have Ey:Z (fH p f D)<Z f:=by
    have QI:(fx D:Fx p)≠0:=λcz=>t<|tx i (qN H.pos)<|cz.trans jM.symm
    have o:=jy H m3 QI;have h3:=L2 H (fx f:Fx p);rw[<-A,cO d.c]at h3;rw[cO u.c]at o;omega
   obtain⟨S,v,s2⟩:=Ub Q (fH p f D) G G u;obtain⟨_,t2⟩:=q'.step H d G i A t J v J;have yX:=v.len;refine⟨_,t2,?_⟩;have K:=DG p H.hp H.le f D G G d.c i;have M:=yk p H.hp H.le f (fH p f D) G G d.c u.c u.ne;rw[ux q1.c.2]at M;generalize fH p f D=g at*;generalize (aU f g p).1=P at*;obtain⟨b,n2,n3,_⟩:=yG H q1.c v.aL.c q1.ne;obtain⟨u1,u2,u3,u4⟩:=sf H v.aL b n3;have r:=DG p H.hp H.le P S G G q1.c v.aL.c;have n:=yk p H.hp H.le S (fH p P S) G G v.aL.c b.c b.ne;rw[ux u1.c.2]at n;generalize fH p P S=c at*;have pc:=b.pos;have pg:=u.pos;have qA:=tb P (aU S c p).1 p G G G G q1.c.1 u1.c.1;refine CC adH J J J J J T ?_;refine N J<|U<|N J<|y J (λh=>?_)<|λh=>cZ<|aO ?_
   .exfalso;have h:(Z f:O)<=1:=aK h;omega
   refine w<|rc J J k<|s J<|U<|N J<|y J (λh=>?_)<|λ_=>cZ<|aO ?_
   .exfalso;have h:(Z D:O)=0:=eq_of_beq h;exact t<|fB G
   exact w<|rc J J K<|s J<|w<|rc J J M<|s J<|w<|rc J J s2<|s J<|w<|rc J J r<|rc J J n<|rc J J qA<|s J<|bI<|gZ cq J<|bf.refl _
def adI(m:Y)(g:V O):∀(a:V (V O))(x:V O×V (V O×O)),gh p m (a++[g]) x=((pull p g ((gh p m a x).1.length+1) (gh p m a x).1 0).1,(gh p m a x).2++[(g,(((pull p g ((gh p m a x).1.length+1) (gh p m a x).1 0).2:Y):O)*(m:O))])
 |[],x=>rfl
 |r::a,x=>by rw[mc,gh,adI m g a,gh]
noncomputable def iI(p:Y)(M:V O)(l:V (V O)):Y->V O×V (V O×O)
 |0=>(M,[])
 |i+1=>((pull p (l.getD i []) ((iI p M l i).1.length+1) (iI p M l i).1 0).1,rf ([],0) (λa=>decide<|q8 (l.getD i []) a.1<0) (l.getD i [],(((pull p (l.getD i []) ((iI p M l i).1.length+1) (iI p M l i).1 0).2:Y):O)) (iI p M l i).2)
def Uc(M:V O)(l:V (V O)):∀i,i<=Z l->(iI p M l i).1=(gh p 1 (h i l) (M,[])).1/\(iI p M l i).2.Perm (gh p 1 (h i l) (M,[])).2
 |0,_=>⟨J,List.Perm.refl _⟩
 |i+1,d=>by
  let ⟨c,h2⟩:=Uc M l i G;have a:h (i+1) l=h i l++[l.getD i []]:=by rw[rv,aV,cH G];rfl
  rw[a,adI,iI,c];refine⟨J,(adG _ _ _ _).trans ?_⟩;have e:∀z:O,z*((1:Y):O)=z:=λz=>mF z
  rw[e];exact(List.Perm.cons _ h2).trans<|List.perm_append_comm (l₁:=[_])
def adJ(m:Y):∀(d:V (V O))(x:V O×V (V O×O)),∀c∈(gh p m d x).2,c∈x.2\/c.1∈d
 |[],x,c,f=> .inl f
 |r::d,x,c,f=>by
  rw[gh]at f;rcases adJ m d _ c f with a|a
  .rcases bg.1 a with a|a
   .exact .inl a
   .rw[gI.1 a];exact .inr ay
  .exact .inr (by simp[a])
def Br.take{f:V O}{a:V (V O)}(c:Br p f a)(i:Y):Br p f (h i a):=
 ⟨λg d=>c.ok g<|BM d,c.ds.sublist (List.take_sublist i a)⟩
include H in
def ao0(pm:p<=2147483647){a:V O}(la:Z a<=200)(ha:∀i,0<=E a i 0)(h0:aS (md p a)≠[])(hd:∀d,2*d<Z (aS<|md p a)->2*p^d<=18446744073709551616):∃L,Bs p (fx<|kT p<|aS<|md p a) L/\al z 175 [I au a,cU p] (.t [(ah,[.S MT L]),(ah,[.I .i64 0])]):=by
 have IG:=H.hp.1;have II:=wD a p G G G ha;have P:bs p (aS<|md p a):=km H.pos<|AE H.pos a;have hal:Z (aS<|md p a)<=200:=by have:=oB<|md p a;rw[wC]at this;omega
 have FO:=Yv p H.hp H.le (aS<|md p a) G P;let ⟨m1,m2,_⟩:=MC H P h0;generalize aS (md p a)=A at*;generalize kT p A=M at*;let ⟨B,r1,r2⟩:=Ub H _ M (dL _) G m1;have LG:=r1.len;have hsq:=aoX H r1.aL r1.kV G<|λd hd'=>hd d G;have f:=adD H (F:=B) (λd hd'=>hd d G) (Z B) ⟨B,[0,1],1,[]⟩ (nA.start H r1.aL r1.kV G) (G:Z B<1+Z B);generalize xj H (Z B) ⟨B,[0,1],1,[]⟩=l at*;have Q:=aoM H m1 r1 f;have hpt:=ado H r1 f;let ⟨f1,f2⟩:=Uc (p:=p) M l (Z l)<|a7 _;rw[fv]at f1 f2;refine⟨(iI p M l<|Z l).2,Q.perm f2,?_⟩;have X4:Z l<=200:=by
  let ⟨h3,h4⟩:=Tz H (l:=l) λg W=>⟨(f.parts g W).1,(f.parts g W).2.1⟩
  rw[f.prod,cO r1.aL.c]at h4;omega
 have hI:=λi=>TG H (List.take i l) M [] (tK.start m1) (hpt.take i)
 refine aR Tryz.func175 ?_;refine N J<|U<|bD J J (Yi p H.hp pm) J<|y J (λh=>er)<|λ_=>aA ?_;refine w<|rc J J II<|rc J J FO<|s J<|U<|N J<|y J (λh=>?_)<|λ_=>aA ?_
 .exfalso;have h:(Z M:O)=0:=eq_of_beq h;have:=m1.pos;omega
 refine w<|rc J J r2<|rc J J hsq<|s J<|w<|rl MT [] J J (s J<|U<|N J ?_);refine R<|aY (α:=Y) (λi=>⟨[(1,cU p),(6,I au (iI p M l i).1),(7,I (.sl au) l),(8,I MT (iI p M l i).2),(9,j i)],[],8,[]⟩) (λi=>i<=Z l) (λi=>Z l-i) 0 (be _) aH ?_;intro i hi;let ⟨k1,k2⟩:=Uc (p:=p) M l i hi;let ⟨i1,i2,_⟩:=hI i;rw[<-k1]at i1 i2;let ⟨i3,_,_⟩:=i1.bounds H;have i3:(gh p 1 (List.take i l) (M,[])).2.length+1<=Z M:=by rwa[cO m1.c]at i3
 have hq:=k2.length_eq;have i2:(iI p M l i).1.length<=Z M:=i2;refine U<|N J<|y J (λh=>?_)<|λh=>?_
 .have h:i<Z l:=by have h:(i:O)<(Z l:O):=aK h;omega
  have ei:ae ((i:O))=i:=bW i;have vO:(E l (ae<|(i:O))<|ET.aD<|.sl au)=l.getD i []:=a8 (λfK=>l.getD fK []) ei;have v:l.getD i []∈l:=R1;let ⟨C,g2,_⟩:=f.parts _ v;have X:∀g∈l,Z g<=200:=λg W=>by have h3:=jy H (NH p W) (by rw[f.prod];exact r1.aL.jN H);rw[f.prod,cO r1.aL.c,cO (f.parts g W).1.c]at h3;omega
  have Ey:=X _ v;have o:∀m∈(iI p M l i).2,Z m.1<=1000:=λm hy=>by
   rcases adJ 1 (List.take i l) (M,[]) m (k2.mem_iff.1 hy)with q|q
   .cases q
   .have:=X _<|BM q;omega
  have hF1:(iI p M l<|i+1).1=(pull p (l.getD i []) ((iI p M l i).1.length+1) (iI p M l i).1 0).1:=rfl;have hF2:(iI p M l<|i+1).2=rf ([],0) (λm=>decide<|q8 (l.getD i []) m.1<0) (l.getD i [],(((pull p (l.getD i []) ((iI p M l i).1.length+1) (iI p M l i).1 0).2:Y):O)) (iI p M l i).2:=rfl;have r:=λn:Y=>aoZ (iI p M l i).2 (l.getD i [],(n:O)) G (by show Z (l.getD i [])<=_;omega) o
  have hm:=i1.aL;generalize hT:pull p (l.getD i []) ((iI p M l i).1.length+1) (iI p M l i).1 0=T at*;rw[<-vO]at*;refine aA<|U<|R<|N J<|U ?_;refine R<|aY (α:=Y×V O×Y) (λm=>⟨[(1,cU p),(6,I au m.2.1),(7,I (.sl au) l),(8,I MT (iI p M l i).2),(9,j i),(10,j m.2.2)],[],10,[]⟩) (λm=>pull p (E l (ae<|(i:O))<|ET.aD<|.sl au) m.1 m.2.1 m.2.2=T/\Z m.2.1<m.1/\Mon p m.2.1/\m.2.2+Z m.2.1<=200) (λm=>m.1) ((iI p M l i).1.length+1,(iI p M l i).1,0) ⟨hT,dL _,hm,by show 0+(iI p M l i).1.length<=_;omega⟩ aH ?_;rintro⟨k,x,n⟩ ⟨K,b2,D,b4⟩;simp only at K b2 D b4;obtain⟨k,rfl⟩:∃k',k=k'+1:=⟨k-1,G⟩;rw[pull]at K;have SX:=rW p H.hp H.le x _ G G D.c C.c C.ne;refine U<|w<|rc J J SX (s J<|y J (λu=>?_)<|λu=>?_) (hp:=aF)
  .have u:(aU x (E l (ae<|(i:O))<|ET.aD<|.sl au) p).2=[]:=fB (by have:=eq_of_beq u;omega);rw[aq u]at K;have S0:=(MA H D.c C.c C.ne).1 u;let ⟨q1,q2,q3,q4⟩:=sf H D C S0;have HI:=yk p H.hp H.le x _ G G D.c C.c C.ne;rw[ux q1.c.2]at HI;refine aA (R<|w<|rc J J HI (s J<|rt J (hp:=aF)<|eH<|aG (k,(aU x (E l (ae<|(i:O))<|ET.aD<|.sl au) p).1,n+1) ⟨K,?_,q1,?_⟩ (dL k) aH) (hp:=aF))
   .show(aU x (E l (ae<|(i:O))<|ET.aD<|.sl au) p).1.length<k;omega
   .show n+1+(aU x (E l (ae<|(i:O))<|ET.aD<|.sl au) p).1.length<=200;omega
  .have u:(aU x (E l (ae<|(i:O))<|ET.aD<|.sl au) p).2≠[]:=λq=>by have u:¬((aU x (E l (ae<|(i:O))<|ET.aD<|.sl au) p).2.length:O)=0:=nf u;rw[q]at u;exact u J
   rw[b u]at K;subst K;have r:=r n;rw[<-hF2]at r;refine a6<|aO ?_;refine bT<|rc J J r (s J<|aX<|rt J (hp:=aF)<|aG (i+1) h uN<|wk ⟨sR J,sE J ?_,sR J,sR J,sR J,e⟩ e) (hp:=aF);rw[hF1]
 .have h:i=Z l:=by have h:¬(i:O)<(Z l:O):=aT h;omega
  subst h;exact a6<|aO<|N J<|cx J
end
def kC(a c:V O):V O:=(cc<|max (Z a)<|Z c).map λi=>E a i 0-E c i 0
def adK a c:Z (kC a c)=max (Z a) (Z c):=by simp[kC]
def EI a c i:E (kC a c) i 0=E a i 0-E c i 0:=by
 by_cases h:i<max (Z a) (Z c)
 .unfold kC;rw[aV,iT,kS h];rfl
 .rw[eK _ (by rw[adK];omega),eK a G,eK c G];rfl
def adL a d u(t:u<=100000)(v:Z a<=1000)(x:Z d<=1000)(m:∀i,aJ u (E a i 0))(n:∀i,aJ u (E d i 0)):al z 257 [I .z a,I .z d] (I .z<|aS<|kC a d):=by
 refine aR Tryz.func257 ?_;have A:=adK a d;have p:=EI a d;generalize hM:max (Z a) (Z d)=M at*;have r:M<=1000:=G;generalize kC a d=L at*;refine N J<|w<|fg .z [] J J (s J<|U<|N J ?_);refine R<|aY (α:=Y) (λi=>⟨[(0,I .z a),(1,I .z d),(5,.c<|.X 1000000),(6,j i)],[(1000000,.vec 42 .z<|h i L)],3,[]⟩) (λi=>i<=M) (λi=>M-i) 0 (be _) aH ?_;intro i B;have C:(h i L).length=i:=bX;by_cases k:i<M
 .refine jk ⟨[(0,I .z a),(1,I .z d),(5,.c<|.X 1000000),(6,j i)],[(1000000,.vec 42 .z<|h i L)],4,[]⟩ ?_ (λg=>w<|rg 12 J J (λf=>s J<|y J (λ_=>cZ<|dM g aH)<|λh2=>oz)<|λf=>s J<|y J (λ_=>cZ<|dM g aH)<|λh2=>?_)
  .refine U<|R<|bT ?_;refine rc J J (GF a i)<|rc J J (GF d i)<|rc J J (Qz (E a i 0) (E d i 0) ((m i).sm G)<|(n i).sm G) ?_;refine rl .z [E a i 0-E d i 0] J J (ra J J J J J J J J J ?_ ?_<|s J ?_)
   .show(_+1+(_+1)/4+192)*32<=_;omega
   .show(_+1)*2<=_;omega
   refine aX<|rt J<|aG (i+1) k wc<|Wk.trans (wk (st':=⟨[(0,I .z a),(1,I .z d),(5,.c<|.X 4009000),(6,j ((i+1:Y):O))],[(4009000,.vec 42 .z<|h (i+1) L)],8,[]⟩) (bJ J) ⟨bE J ?_,e⟩)<|Wk.trans (fa 1000000 4009000 J J J) aH;rw[qM _ i G,p i]
  .exfalso;have f:¬(i:O)<(Z a:O):=aT f;have h2:¬(i:O)<(Z d:O):=aT h2;omega
 .have l:i=M:=by omega
  subst l;rw[iK G];refine U<|w<|rg 12 J J (λf=>?_)<|λf=>?_
  .exfalso;have f:(i:O)<(Z a:O):=aK f;omega
  .refine s J (y J (λh2=>?_)<|λh2=>?_)
   .exfalso;have h2:(i:O)<(Z d:O):=aK h2;omega
   .exact a6<|aO<|c6 1000000 J J J<|bD J J (K5 _) J<|cx J
def jD(p:O)(l:V (V O)):Y->V O
 |0=>[1]
 |i+1=>cG (jD p l i) (l.getD i []) p
section
variable{p:Y}(H:bq p)
include H
def adN:bs p [1]:=⟨DF G A3,.inr (T:(1:O)≠0)⟩
def ao6:Mon p [1]:=⟨adN H,ay,J⟩
def IJ{l:V (V O)}(d:∀g∈l,Mon p g/\1<=Z g):∀i,i<=Z l->Mon p (jD p l i)/\(fx (jD p l i):Fx p)=gU p (h i l)/\Z (jD p l i)=1+dn (h i l)
 |0,_=>⟨ao6 H,by rw[jD,A1];rfl,J⟩
 |i+1,n=>by
  let ⟨f,h2,r⟩:=IJ d i G;have a:l.getD i []∈l:=by rw[aV,cH G];exact ru _
  let ⟨k,g2⟩:=d _ a;let ⟨t1,t2⟩:=T3 H f k;have c:h (i+1) l=h i l++[l.getD i []]:=by rw[rv,aV,cH G];rfl
  have m:dn (h i l++[l.getD i []])=dn (h i l)+(Z (l.getD i [])-1):=by rw[NI];rfl
  rw[c,jD];refine⟨t1,?_,?_⟩
  .rw[uQ,h2,Ix,gU,gU,mul_one]
  .rw[m];omega
theorem adO(l:V (V O))(i:Y):dn (h i l)<=dn l:=by
 conv=>rhs;rw[<-ry i l]
 rw[NI];omega
def ao7{l:V (V O)}(f:∀g∈l,Mon p g/\1<=Z g)(B:dn l<=900)(F:Z l<=1000):al z 215 [I (.sl au) l,cU p] (I au<|jD p l<|Z l):=by
 refine aR Tryz.func215 ?_;have t:=H.hp.1;have m:=H.le;refine N J<|w<|rl au [1] J J (s J<|U<|N J ?_);refine R<|aY (α:=Y) (λi=>⟨[(0,I (.sl au) l),(1,cU p),(5,I au<|jD p l i),(6,j i)],[],4,[]⟩) (λi=>i<=Z l) (λi=>Z l-i) 0 (be _) aH ?_;intro i u;refine U<|N J<|y J (λh1=>?_)<|λh1=>?_
 .have h1:i<Z l:=by have h1:(i:O)<(Z l:O):=aK h1;omega
  have v:ae ((i:O))=i:=bW i;have k:(E l (ae<|(i:O))<|ET.aD<|.sl au)=l.getD i []:=a8 (λx=>l.getD x []) v;have d:l.getD i []∈l:=NY;let ⟨t1,_,t3⟩:=IJ H f i u;have C:=adO H l i;have K:=adO H l<|i+1;let ⟨_,_,n⟩:=IJ H f (i+1) h1;let ⟨r,g2⟩:=f _ d;let ⟨_,t7⟩:=T3 H t1 r;have a:=tb (jD p l i) (l.getD i []) p G (by have n:Z (cG (jD p l i) (l.getD i []) p)=_:=n;omega) G G t1.c.1 r.c.1;have A:jD p l (i+1)=cG (jD p l i) (l.getD i []) p:=rfl;rw[<-A]at a;rw[<-k]at a;exact aA<|U<|R<|bT<|rc J J a (s J<|aX<|rt J (hp:=aF)<|aG (i+1) h1 uN aH) (hp:=aF)
 .have h1:i=Z l:=by have h1:¬(i:O)<(Z l:O):=aT h1;omega
  subst h1;exact a6<|aO<|N J<|cx J
end
section
variable{p:Y}
structure tM where
 a:V O
 b:V O
 t:V O
 n:V O
def tM.q(p:Y)(x:tM):V O:=aS (aU x.a x.b p).1
def tM.next(p:Y)(x:tM):tM:=⟨x.b,(aU x.a x.b p).2,x.n,aS<|fG x.t (cG (x.q p) x.n p) p⟩
def Bx(p:Y):Y->tM->tM
 |0,x=>x
 |k+1,x=>if x.b=[]then x else Bx p k (x.next p)
structure By(p:Y)(g h:V O)(C:Y)(x:tM):Prop where
 ca:bs p x.a
 cb:bs p x.b
 ct:bs p x.t
 cn:bs p x.n
 a0:x.a≠[]
 l1:x.n.length+x.a.length<=C
 l2:x.t.length+x.b.length<=C
 d1:(fx g:Fx p)∣fx x.a-fx x.t*fx h
 d2:(fx g:Fx p)∣fx x.b-fx x.n*fx h
 co:Co (fx x.a:Fx p) (fx x.b)
variable(H:bq p)
include H
def ao8{a c:V O}(f:bs p a)(g:bs p c)(d:c≠[]):(fx a:Fx p)=fx (aU a c p).1*fx c+fx (aU a c p).2:=
 mk_eq.2 (lu H.hp H.le f.1 g d).1
def By.next{g f:V O}{C:Y}{x:tM}(d:By p g f C x)(i:x.b≠[]):By p g f C (x.next p)/\(x.next p).b.length<Z x.b:=by
 let ⟨_,j,o,s,F,K⟩:=lu H.hp H.le d.ca.1 d.cb i;have u:=ao8 H d.ca d.cb i;have w:=d.l1;have y:=d.l2;have z:=cQ.2 i;have l:(fx (x.q p):Fx p)=fx (aU x.a x.b p).1:=DY _;have L:Z (x.q p)<=Z x.a-(Z x.b-1):=by have:=oB (aU x.a x.b p).1;rw[K]at this;exact this
 have m:=oB<|fG x.t (cG (x.q p) x.n p) p;rw[Lz]at m;have M:Z (cG (x.q p) x.n p)+Z x.b<=C:=by
  by_cases e:x.q p=[]\/x.n=[]
  .unfold cG;rw[aq e,m7];omega
  .have P:x.q p≠[]:=λk=>e (.inl k)
   have Q:x.n≠[]:=λk=>e<|.inr k
   have:=uy (x.q p) x.n p;have E:=cQ.2 P;have J:=cQ.2 Q;omega
 have r:(fx (x.next p).n:Fx p)=fx x.t-fx (aU x.a x.b p).1*fx x.n:=by show(fx (aS<|fG x.t (cG (x.q p) x.n p) p):Fx p)=_;rw[Sb,uQ,l]
 have S:(fx (aU x.a x.b p).2:Fx p)=fx x.a-fx (aU x.a x.b p).1*fx x.b:=Hi (by rw[add_comm,<-u]);refine⟨⟨d.cb,F d.ca,d.cn,km H.pos<|AF H.pos _ _,i,?_,?_,d.d2,?_,?_⟩,by show(aU x.a x.b p).2.length<_;omega⟩
 .show Z (aS _)+Z x.b<=C;omega
 .show Z x.n+(aU x.a x.b p).2.length<=C;by_cases c:Z x.b<=Z x.a
  .omega
  .have:(aU x.a x.b p).2=x.a:=by unfold aU;rw[aq G]
   rw[this];omega
 .show(fx g:Fx p)∣fx (aU x.a x.b p).2-fx (x.next p).n*fx f;rw[S,r,sub_mul];have W:(fx g:Fx p)∣fx (aU x.a x.b p).1*fx x.b-fx (aU x.a x.b p).1*(fx x.n*fx f):=pH (mJ _ _) d.d2;have X:=dvd_sub d.d1 W;have e:∀A B C D:Fx p,A-B-(C-D)=A-C-(B-D):=λA B C D=>by rw[sub_def (A-B),neg_sub,sub_def<|A-C,neg_sub,sub_def A,sub_def D,sub_def A,sub_def D];ac_rfl
  rw[e]at X;rwa[mul_assoc (fx (aU x.a x.b p).1)]
 .let ⟨U,v,e⟩:=d.co;refine⟨U*fx (aU x.a x.b p).1+v,U,?_⟩;show(U*fx (aU x.a x.b p).1+v)*fx x.b+U*fx (aU x.a x.b p).2=1;rw[<-e,u,add_mul,mul_add];ac_rfl
def adP{g c:V O}{C:Y}:∀(k:Y)(x:tM),By p g c C x->Z x.b<k->By p g c C (Bx p k x)/\(Bx p k x).b=[]
 |0,x,_,f=>by omega
 |k+1,x,d,f=>by
  rw[Bx];split
  .rename_i a;exact⟨d,a⟩
  .rename_i a;let ⟨i,l⟩:=d.next H a;exact adP k _ i G
def ao9{g d:V O}(r:Mon p g)(hh:Mon p d)(g2:2<=Z g)(lg:Z g<=100)(lh:d.length<=100)(P:Co (fx g:Fx p) (fx d)):∃t,bs p t/\Z t<Z g/\(fx g:Fx p)∣fx t*fx d-1/\al z 258 [I au g,I au d,cU p] (I au t):=by
 have IG:=H.hp.1;have adQ:=H.le;have I0:By p g d 101 ⟨g,d,[],[1]⟩:=⟨r.c,hh.c,qN H.pos,adN H,r.ne,by show 1+Z g<=_;omega,by show 0+d.length<=_;omega,by rw[jM,zero_mul,sub_zero];exact dvd_refl _,by rw[A1,one_mul,sub_self];exact dvd_zero _,P⟩;let ⟨E,e0⟩:=adP H (d.length+1) ⟨g,d,[],[1]⟩ I0<|dL _;generalize hX:Bx p (d.length+1) ⟨g,d,[],[1]⟩=X at*;have hu:sz (fx X.a:Fx p)=1:=by let ⟨N0,Bz,e⟩:=E.co;rw[e0,jM,mul_zero,add_zero]at e;exact wL H e
 rw[cO E.ca]at hu;obtain⟨c,M⟩:∃c,X.a=[c]:=by
  match hxa:X.a,hu with
  |[c],_=>exact⟨c,J⟩
 have m:0<=c/\c<p:=by have:=E.ca.1 0;rw[M]at this;exact this
 have A:c≠0:=by
  rcases E.ca.2 with e|e
  .exact absurd e E.a0
  .rw[M]at e;exact e
 have B:=Q4 c p m A G G;have Q:=DD H.hp H.le m.1 m.2 A;have S:((iq (ae c) (ae ((p:Y):O)):Y):O)<p:=by rw[Yf _ _ (by rw[bW];omega) (by rw[bW];omega),bW];have:=fb (ae c^(p-2)) (G:0<p);omega
 generalize iq (ae c) (ae ((p:Y):O))=v at*;have l2:=E.l2;have W:=tb [(v:O)] X.t p ay G G G (DF G S) E.ct.1;have C:=uy [(v:O)] X.t p;have j:=rW p H.hp H.le (cG [(v:O)] X.t p) g (by simp at C;omega) G (mH H.pos _ _) r.c r.ne;let ⟨r1,r2,r3⟩:=u7 H (mH H.pos [(v:O)] X.t) r.c r.ne;refine⟨_,r1,r2,?_,?_⟩
 .rw[uQ,Sa]at r3;have k1:(fx g:Fx p)∣fx (aU (cG [(v:O)] X.t p) g p).2*fx d-K v*fx X.t*fx d:=pH r3<|mJ _ _;have k2:(fx g:Fx p)∣K v*fx X.a-K v*(fx X.t*fx d):=pH (mJ _ _) E.d1;rw[M,Sa,<-eX,A0 (a:=(v:O)*c) (b:=1) (by rw[ef,Q,H.one]),<-mul_assoc]at k2;exact nR k1<|nl k2
 refine aR Tryz.func258 ?_;refine N J<|N J<|w<|rl au [] J J (rl au [1] J J (s J ?_));refine U<|R<|aY (α:=Y×tM) (λf=>⟨[(0,I au g),(1,I au d),(2,cU p),(7,I au f.2.a),(8,I au f.2.b),(9,I au f.2.t),(10,I au f.2.n)],[],3,[]⟩) (λf=>By p g d 101 f.2/\Z f.2.b<f.1/\Bx p f.1 f.2=X) (λf=>f.1) (d.length+1,⟨g,d,[],[1]⟩) ⟨I0,dL _,hX⟩ aH ?_;rintro⟨k,x⟩ ⟨i,hk,u⟩;simp only at i hk u;obtain⟨k,rfl⟩:∃k',k=k'+1:=⟨k-1,G⟩;rw[Bx]at u;have l1:=i.l1;have l2:=i.l2;refine U<|N J<|y J (λl=>?_)<|λl=>?_
 .have l:0<Z x.b:=by have l:(Z x.b:O)>0:=aK l;omega
  have F:x.b≠[]:=cQ.1 l;rw[b F]at u;let ⟨n1,n2⟩:=i.next H F;have L:=yk p H.hp H.le x.a x.b G G i.ca i.cb F;have o:aS (aU x.a x.b p).1=x.q p:=rfl;rw[o]at L;have hq:Z (x.q p)<=101:=by have:=oB (aU x.a x.b p).1;rw[(lu H.hp H.le i.ca.1 i.cb F).2.2.2.2.2]at this;show Z (aS _)<=_;omega
  have D:bs p (x.q p):=km H.pos (lu H.hp H.le i.ca.1 i.cb F).2.1;have T:=tb (x.q p) x.n p G G G G D.1 i.cn.1;have hmc:=mH H.pos (x.q p) x.n;have C:=uy (x.q p) x.n p;have hsu:=G3 x.t (cG (x.q p) x.n p) p G G G G i.ct.1 hmc.1;exact cZ<|aO<|R<|w<|rc J J L<|s J<|N J<|N J<|w<|rc J J T<|rc J J hsu<|s J<|N J<|rt J<|eH<|aG (k,x.next p) ⟨n1,(G:(x.next p).b.length<k),u⟩ (dL k) aH
 .have l:x.b=[]:=fB (by have l:¬(Z x.b:O)>0:=aT l;omega);rw[aq l]at u;subst u;refine a6<|aO ?_;show TR _ _ _ ⟨_,_,_,_⟩ _;simp only[M];exact bD J J B J<|w<|rl au [(v:O)] J J (rc J J W<|rc J J j<|s J<|cx J)
end
def mU(f a K:V O):V O:=aS<|kC f<|aS<|kQ a K
def js(a:O)(p:Y)(f c K:V O):V O:=(mU f c K).map λx=>x/a%(p:O)
def oQ(a:O)(p:Y)(f g t c K:V O):V O:=(aU (cG t (aS<|js a p f c K) p) g p).2
def zb(a:O)(p:Y)(f g d t c K:V O):V O:=(aU (aS<|fG (aS<|js a p f c K) (cG (oQ a p f g t c K) d p) p) g p).1
def ew(p:Y)(f g c t:V O):Y->V O×V O
 |0=>(g,c)
 |a+1=>(lA (ew p f g c t a).1 ((p:O)^(a+1))<|oQ ((p:O)^(a+1)) p f g t (ew p f g c t a).1 (ew p f g c t a).2,lA (ew p f g c t a).2 ((p:O)^(a+1))<|zb ((p:O)^(a+1)) p f g c t (ew p f g c t a).1 (ew p f g c t a).2)
structure IK(p:Y)(f g h t:V O):Prop where
 H:bq p
 fm:aL f
 hg:Mon p g
 hh:Mon p h
 g2:2<=g.length
 h2:2<=h.length
 lg:g.length<=100
 lh:h.length<=100
 fl:f.length+1=g.length+h.length
 pr:(fx f:Fx p)=fx g*fx h
 tc:bs p t
 tl:t.length<g.length
 ht:(fx g:Fx p)∣fx t*fx h-1
section
variable{p:Y}{f g h t:V O}(A:IK p f g h t)
include A
structure TwE(p:Y)(f g h t c K:V O)(a:Y):Prop where
 D:(mU f c K).length+2<=g.length+h.length
 e:bs p (aS<|js ((p:O)^a) p f c K)
 el:(aS<|js ((p:O)^a) p f c K).length+2<=g.length+h.length
 cg:bs p (oQ ((p:O)^a) p f g t c K)
 lg:(oQ ((p:O)^a) p f g t c K).length<g.length
 ck:bs p (zb ((p:O)^a) p f g h t c K)
 lk:(zb ((p:O)^a) p f g h t c K).length<h.length
 nx:tL p f g h (lA c ((p:O)^a)<|oQ ((p:O)^a) p f g t c K) (lA K ((p:O)^a)<|zb ((p:O)^a) p f g h t c K) (a+1)
def IK.step{a K:V O}{c:Y}(d:tL p f g h a K c)(j1:1<=c):TwE p f g h t a K c:=by
 have H:=A.H;have b:=H.hp.1;have o:(0:O)<(p:O)^c:=mW G;let ⟨w,hw⟩:=d.pr;have l:∀i,E (mU f a K) i 0=(p:O)^c*w i:=λi=>by
  have m:ps (mU f a K) i=ps f i-(ps a*ps K) i:=by show ps (aS<|kC f<|aS<|kQ a K) i=_;rw[pG,cw,EI,<-cw,<-cw,pG,aak _ _ d.Gm.1 d.Km.1]
  rw[cw]at m;rw[m,hw,PS.eI,PS.eX];omega
 have B:Z (mU f a K)+2<=Z g+h.length:=by
  have k:=d.Gm.tz.mul d.Km.tz;have n:=A.fm.tz;have P:∀i,Z f-1<=i->E (mU f a K) i 0=0:=λi Q=>by
   have m:E (mU f a K) i 0=ps f i-(ps a*ps K) i:=by rw[l i,hw,PS.eI,PS.eX];omega
   have S:Z a-1+(K.length-1)=Z f-1:=by have:=d.Gl;have:=d.Kl;have:=A.fl;have:=A.g2;have:=A.h2;omega
   rw[S]at k;rcases apc Q with e|e
   .rw[m,n.z i e,k.z i e];rfl
   .rw[m,<-e,n.one,k.one];rfl
  have W:can (mU f a K):=ES _;have:=A.fl;have:=A.g2;have:=A.h2;rcases W with e|e
  .rw[e];simp;omega
  .rcases oV (Z (mU f a K)-1) (Z f-1)with F|F
   .omega
   .exact absurd (P _ F) e
 have r:∀i,E (js ((p:O)^c) p f a K) i 0=w i%p:=λi=>by show E ((mU f a K).map λx=>x/(p:O)^c%(p:O)) i 0=_;rw[getD_map (f:=λx=>x/(p:O)^c%(p:O)) Ud,l i,Ue _ G]
 have C:rp p (js ((p:O)^c) p f a K):=λi=>by rw[r i];exact⟨g6 _ G,g7 _ G⟩
 have u:bs p (aS<|js ((p:O)^c) p f a K):=km H.pos C;have v:Z (aS<|js ((p:O)^c) p f a K)+2<=Z g+h.length:=by
  have q:=oB<|js ((p:O)^c) p f a K;have s:Z (js ((p:O)^c) p f a K)=Z (mU f a K):=by simp[js]
  omega
 let ⟨a1,a2,L,M,X⟩:=aoN H A.hg A.hh A.g2 u v A.ht;exact⟨B,u,v,a2,a1,L,M,d.step H j1 w hw (Cg.of λi=>by rw[pG,cw,r i,lR]) a1 a2 M L X⟩
def IK.all:∀a,tL p f g h (ew p f g h t a).1 (ew p f g h t a).2 (a+1)
 |0=>tL.start A.hg A.hh A.pr
 |a+1=>(A.step (IK.all a)<|NX<|be a).nx
theorem adT{a d:V O}(c:O)(i:aL a)(h:Z d<Z a):aS (wH a c d)=lA a c d:=by
 have e:wH a c d=lA a c d:=by unfold wH lA;rw[(G:max (Z a) (Z d)=Z a)]
 rw[e];exact(T5 c i h).trim
def apd(hb:al z 258 [I au g,I au h,cU p] (I au t)){k u r:Y}(k1:1<=k)(kk:k<=1000)(hu:∀i,aJ u (E f i 0))(hw:aJ r ((p:O)^k))(u9:u<=1000)(w9:r<=1000)(w1:1<=r):al z 214 [I .z f,I au g,I au h,cU p,j k] (.a [.S .z (ew p f g h t<|k-1).1,.S .z (ew p f g h t<|k-1).2]):=by
 have H:=A.H;have IG:=H.hp.1;have adQ:=H.le;have lg:=A.lg;have lh:=A.lh;have g2:=A.g2;have h2:=A.h2;have fl:=A.fl;obtain⟨k,rfl⟩:∃n,k=n+1:=⟨k-1,G⟩;rw[dE];have C:∀{q:V O},Mon p q->∀i,0<=E q i 0/\E q i 0<4294967296:=λ{q} hq i=>by have:=hq.c.1 i;omega
 have M:=YG g G<|C A.hg;have Q:=YG h G<|C A.hh;rw[ux A.hg.c.2]at M;rw[ux A.hh.c.2]at Q;refine aR Tryz.func214 ?_;refine N J<|bD J J hb J<|w<|rc J J M<|rc J J Q<|s J ?_;refine w<|rc J J (iD p G G) (s J<|U<|N J ?_) (hp:=aF);refine R<|aY (α:=Y) (λi=>⟨[(0,I .z f),(1,I au g),(2,I au h),(3,cU p),(4,j ((k+1:Y):O)),(10,.c<|.P 0 0),(11,I au t),(12,.c<|.P 2005000 0),(13,.c<|.P 3003000 0),(14,j ((i+1:Y):O))],[(0,.box 208 0 [.V (.slice none 0 0),.V<|.slice none 0 0]),(2005000,.box 208 0 [.S .z (ew p f g h t i).1,.S .z (ew p f g h t i).2]),(3003000,.box 42 0<|av .z<|(p:O)^(i+1))],5,[]⟩) (λi=>i<=k) (λi=>k-i) 0 (be _) (wk (bJ J) ⟨bE J J,bE J J,bE J ?_,e⟩) ?_
 .rw[eZ,ow,jS];rfl
 intro i hi;have F:=A.all i;let ⟨e1,e2,e3,e4,e5,e6,e7,e8⟩:=A.step F<|NX<|be i;have hq:(0:O)<(p:O)^(i+1):=mW G;have K2:(p:O)^(i+1)<=(p:O)^(k+1):=by rw[<-s7,<-s7];exact Mr.2<|fT G G
 have v:aJ r ((p:O)^(i+1)):=by unfold aJ at*;omega
 have hn1:(ew p f g h t<|i+1).1=lA (ew p f g h t i).1 ((p:O)^(i+1)) (oQ ((p:O)^(i+1)) p f g t (ew p f g h t i).1 (ew p f g h t i).2):=rfl;have hn2:(ew p f g h t<|i+1).2=lA (ew p f g h t i).2 ((p:O)^(i+1)) (zb ((p:O)^(i+1)) p f g h t (ew p f g h t i).1 (ew p f g h t i).2):=rfl;have hE:js ((p:O)^(i+1)) p f (ew p f g h t i).1 (ew p f g h t i).2=(mU f (ew p f g h t i).1 (ew p f g h t i).2).map λx=>x/(p:O)^(i+1)%(p:O):=rfl
 have hGE:oQ ((p:O)^(i+1)) p f g t (ew p f g h t i).1 (ew p f g h t i).2=(aU (cG t (aS<|js ((p:O)^(i+1)) p f (ew p f g h t i).1 (ew p f g h t i).2) p) g p).2:=rfl;have hKE:zb ((p:O)^(i+1)) p f g h t (ew p f g h t i).1 (ew p f g h t i).2=(aU (aS<|fG (aS<|js ((p:O)^(i+1)) p f (ew p f g h t i).1 (ew p f g h t i).2) (cG (oQ ((p:O)^(i+1)) p f g t (ew p f g h t i).1 (ew p f g h t i).2) h p) p) g p).1:=rfl;have W:mU f (ew p f g h t i).1 (ew p f g h t i).2=aS (kC f<|aS<|kQ (ew p f g h t i).1 (ew p f g h t i).2):=rfl;have gB:∀d,aJ r ((ew p f g h t i).1.getD d 0):=λd=>by have:=F.Gr d;unfold aJ at*;omega
 have kB:∀d,aJ r ((ew p f g h t i).2.getD d 0):=λd=>by have:=F.Kr d;unfold aJ at*;omega
 generalize hG0:(ew p f g h t i).1=l at*;generalize hK0:(ew p f g h t i).2=K at*;generalize wi:(p:O)^(i+1)=q at*;refine U<|N J<|y J (λB=>?_)<|λB=>?_
 .have B:i<k:=by have B:((i+1:Y):O)<((k+1:Y):O):=aK B;omega
  have gl:=F.Gl;have kl:=F.Kl;have FV:=Yx l K r r G G G gB kB;have b:∀i,aJ (2*r+1+u) (E (aS<|kQ l K) i 0):=λi=>by rw[<-cw,pG,cw];exact(aal l K r r gB kB G G i).le G
  have hil:Z (aS<|kQ l K)<=200:=by have:=oB<|kQ l K;rw[HY]at this;omega
  have o:=adL f (aS<|kQ l K) (2*r+1+u) G G G (λi=>(hu i).le G) b;have T:∀i,aJ (2*r+2+u) (E (mU f l K) i 0):=λi=>by rw[W,<-cw,pG,cw,EI];exact(((hu i).le (G:u<=2*r+1+u)).sub<|b i).le G
  rw[<-W]at o;have hLl:Z (js q p f l K)=Z (mU f l K):=by rw[hE,cR]
  have hLr:∀d,d<Z (mU f l K)->E (js q p f l K) d 0=E (mU f l K) d 0/q%(p:O):=λd _=>by rw[hE];exact getD_map (f:=λx=>x/q%(p:O)) Ud _ d
  have hLp:rp p (js q p f l K):=λd=>by rw[hE,getD_map (f:=λx=>x/q%(p:O)) Ud];exact⟨g6 _ G,g7 _ G⟩
  have II:=wD (js q p f l K) p G G G<|λd=>(hLp d).1;rw[G0 hLp]at II;have tl:=A.tl;have Dm:=tb t (aS<|js q p f l K) p G G G G A.tc.1 e2.1;have Q8:=uy t (aS<|js q p f l K) p;have uq:=rW p H.hp H.le (cG t (aS<|js q p f l K) p) g G G (mH H.pos _ _) A.hg.c A.hg.ne;rw[<-hGE]at uq;have hm2:=tb (oQ q p f g t l K) h p G G G G e4.1 A.hh.c.1;have atj:=uy (oQ q p f g t l K) h p;have apm:=G3 (aS<|js q p f l K) (cG (oQ q p f g t l K) h p) p G G G G e2.1 (mH H.pos _ _).1;have yX:=oB<|fG (aS<|js q p f l K) (cG (oQ q p f g t l K) h p) p;rw[Lz]at yX;have hd2:=yk p H.hp H.le (aS<|fG (aS<|js q p f l K) (cG (oQ q p f g t l K) h p) p) g G G (km H.pos<|AF H.pos _ _) A.hg.c A.hg.ne;rw[<-hKE,ux e6.2]at hd2;have ha1:=DJ l q (oQ q p f g t l K) r G G G gB v (λd=>by have:=e4.1 d;omega);have Mh:=DJ K q (zb q p f g h t l K) r G G G kB v (λd=>by have:=e6.1 d;omega);rw[adT A q F.Gm G,<-hn1]at ha1;rw[adT A q F.Km G,<-hn2]at Mh;have Uf:=kg q p (v.sm G)<|(aJ.one (a:=(p:O)) G).sm G;generalize oQ q p f g t l K=dg at*;generalize zb q p f g h t l K=dh at*;generalize js q p f l K=L at*;generalize mU f l K=D at*;refine cZ<|aO<|U<|R<|w<|rc J J FV<|rc J J o<|s J<|w<|fg au [] J J (s J<|U<|N J ?_)
  refine R<|aY (α:=Y) (λd=>⟨[(0,I .z f),(1,I au g),(2,I au h),(3,cU p),(4,j ((k+1:Y):O)),(10,.c<|.P 0 0),(11,I au t),(12,.c<|.P 2005000 0),(13,.c<|.P 3003000 0),(14,j ((i+1:Y):O)),(15,I .z D),(16,.c<|.X 7000000),(17,j d)],[(0,.box 208 0 [.V (.slice none 0 0),.V<|.slice none 0 0]),(2005000,.box 208 0 [.S .z l,.S .z K]),(3003000,.box 42 0<|av .z q),(7000000,.vec 150 au<|List.take d L)],9,[]⟩) (λd=>d<=Z D) (λd=>Z D-d) 0 (be _) aH ?_;intro d hj;have hl:(List.take d L).length=d:=bX;refine U<|N J<|y J (λm=>?_)<|λm=>?_
  .have m:d<Z D:=by have m:(d:O)<(Z D:O):=aK m;omega
   have ej:ae ((d:O))=d:=bW d;have Qw:=Dq (E D (ae<|(d:O)) 0) q G ((T _).sm G)<|v.sm G;have As:=Yy (E D (ae<|(d:O)) 0/q) p G G (by
    have h1:=T<|ae<|(d:O);have h2:aJ (2*r+2+u) (E D (ae<|(d:O)) 0/q):=by have:=Ug (E D (ae<|(d:O)) 0) q;unfold aJ at*;omega
    exact h2.sm G)
   refine aA<|U<|R ?_;refine w<|rc J J Qw (s J ?_) (hp:=aF);refine bT<|rc J J As<|rl au [_] J J (ra J J J J J J J J J ?_ ?_<|s J ?_)
   .show(_+1+(_+1)/4+192)*8<=_;omega
   .show(_+1)*1<=_;omega
   refine aX<|rt J (hp:=aF)<|aG (d+1) m (G:Z D-(d+1)<Z D-d)<|Wk.trans (wk (st':=⟨[(0,I .z f),(1,I au g),(2,I au h),(3,cU p),(4,j ((k+1:Y):O)),(10,.c<|.P 0 0),(11,I au t),(12,.c<|.P 2005000 0),(13,.c<|.P 3003000 0),(14,j ((i+1:Y):O)),(15,I .z D),(16,.c<|.X 11005000),(17,j ((d+1:Y):O))],[(0,.box 208 0 [.V (.slice none 0 0),.V<|.slice none 0 0]),(2005000,.box 208 0 [.S .z l,.S .z K]),(3003000,.box 42 0<|av .z q),(11005000,.vec 150 au<|List.take (d+1) L)],24,[]⟩) (bJ J) ⟨bR J,bR J,bR J,bE J ?_,e⟩)<|Wk.trans (fa 7000000 11005000 J J J) aH;refine a8 (aN.vec 150 au) ?_;rw[qM _ d G,hLr d m,ej]
  .have m:d=Z D:=by have m:¬(d:O)<(Z D:O):=aT m;omega
   subst m;rw[iK G];refine a6<|aO<|c6 7000000 J J J<|bD J J II J ?_;refine w<|rc J J Dm<|rc J J uq<|s J<|w<|rc J J hm2<|rc J J apm<|rc J J hd2<|s J ?_;refine w<|rc J J ha1<|rc J J Mh<|s J ?_;refine bT<|rc J J (iD p G G) (rc J J Uf<|s J ?_) (hp:=aF);refine aX<|rt J (hp:=aF)<|aG (i+1) B LN<|wk (bJ J) ⟨bE J J,bE J J,bE J ?_,e⟩;rw[eZ,wi];rfl
 .have B:i=k:=by have B:¬((i+1:Y):O)<((k+1:Y):O):=aT B;omega
  subst B;refine a6<|aO ?_;rw[hG0,hK0];exact N J<|bQ J J
end
section
variable{p:Y}(H:bq p)
open Classical in
noncomputable def xk(p:Y)(g a:V O):V O:=if e:∃t,bs p t/\Z t<Z g/\(fx g:Fx p)∣fx t*fx a-1/\al z 258 [I au g,I au a,cU p] (I au t)then A2 e else[]
include H in
def apn{g a:V O}(d:Mon p g)(f:Mon p a)(g2:2<=Z g)(i:Z g<=100)(k:a.length<=100)(c:Co (fx g:Fx p) (fx a)):bs p (xk p g a)/\Z (xk p g a)<Z g/\(fx g:Fx p)∣fx (xk p g a)*fx a-1/\al z 258 [I au g,I au a,cU p] (I au<|xk p g a):=by have e:=ao9 H d f g2 i k c;unfold xk;rw[dif_pos e];exact uC e
noncomputable def si(p k:Y)(f:V O)(l:V (V O)):V O×V O:=ew p f (l.getD 0 []) (jD p l.tail<|Z l.tail) (xk p (l.getD 0 [])<|jD p l.tail<|Z l.tail)<|k-1
noncomputable def rh(p k:Y):V O->V (V O)->V (V O)
 |_,[]=>[]
 |f,[_]=>[f.map (dq · ((p:O)^k))]
 |f,g::a::r=>(si p k f<|g::a::r).1.map (dq · ((p:O)^k))::rh p k (si p k f<|g::a::r).2 (a::r)
structure vb(p:Y)(f:V O)(l:V (V O)):Prop where
 fm:aL f
 ok:∀g∈l,Mon p g/\2<=g.length
 pr:(fx f:Fx p)=gU p l
 co:l.Pairwise (λx a=>Co (fx x:Fx p)<|fx a)
 fl:f.length=1+dn l
 d9:dn l<=90
def adY:∀l:V (V O),gU p l=fj l
 |[]=>rfl
 |f::l=>by rw[gU,fj,adY l]
def adZ:∀{l:V (V O)}{g:V O},g∈l->Z g<=1+dn l
 |x::l,g,a=>by
  rw[dn];rcases bY.1 a with rfl|a
  .omega
  .have:=adZ a;omega
include H
def vb.two{f g a:V O}{r:V (V O)}(A:vb p f (g::a::r)):IK p f g (jD p (a::r) (a::r).length) (xk p g<|jD p (a::r) (a::r).length)/\al z 258 [I au g,I au<|jD p (a::r) (a::r).length,cU p] (I au<|xk p g<|jD p (a::r) (a::r).length):=by
 let ⟨d,g2⟩:=A.ok g ay;let ⟨t1,t2,t3⟩:=IJ H (l:=a::r) (λx hx=>⟨(A.ok x lF).1,by have:=(A.ok x lF).2;omega⟩) _<|a7 _;rw[fv]at t2 t3;let ⟨u,h2⟩:=A.ok a ay;let ⟨c1,_⟩:=ju.1 A.co;have v:dn (g::a::r)=(Z g-1)+dn (a::r):=rfl;have i:dn (a::r)=(a.length-1)+dn r:=rfl;have B:=A.d9;have C:=A.fl;have c:Co (fx g:Fx p) (fx<|jD p (a::r) (a::r).length):=by rw[t2,adY];exact adi H c1
 let ⟨k,m,n,t⟩:=apn H d t1 g2 G G c;refine⟨⟨H,A.fm,d,t1,g2,G,G,G,G,?_,k,m,n⟩,t⟩;rw[A.pr,t2];rfl
def vb.next{f g a:V O}{r:V (V O)}(A:vb p f (g::a::r)){k:Y}(c:1<=k):tL p f g (jD p (a::r) (a::r).length) (si p k f<|g::a::r).1 (si p k f<|g::a::r).2 k/\vb p (si p k f<|g::a::r).2 (a::r):=by let ⟨T,_⟩:=A.two H;have I:=T.all<|k-1;rw[(G:k-1+1=k)]at I;have I:tL p f g (jD p (a::r) (a::r).length) (si p k f<|g::a::r).1 (si p k f<|g::a::r).2 k:=I;let ⟨t1,t2,t3⟩:=IJ H (l:=a::r) (λx hx=>⟨(A.ok x lF).1,by have:=(A.ok x lF).2;omega⟩) _<|a7 _;rw[fv]at t2 t3;have d:dn (g::a::r)=(Z g-1)+dn (a::r):=rfl;have i:=A.d9;exact⟨I,I.Km,λx hx=>A.ok x lF,by rw[I.Kp,t2],(ju.1 A.co).2,by rw[I.Kl,t3],G⟩
def ad0{k:Y}(B:1<=k):∀(l:V (V O))(f:V O),vb p f l->EH p k f l (rh p k f l)
 |[],f,A=>by
  refine⟨J,λi n=>absurd n ay,?_⟩;have t:f=[1]:=by
   have C:=A.fl;have u:=A.fm.2;match f,C with
   |[c],_=>rw[show c=1 from u]
  rw[t,LC];exact Cg.refl _ _
 |[g],f,A=>by
  have d:(1:O)<(p:O)^k:=by obtain⟨j,rfl⟩:∃j,k=j+1:=⟨k-1,G⟩;have:=H.hp.1;have u:(0:O)<(p:O)^j:=mW G;have F:=gG (G:(1:O)<=(p:O)^j) (G:(0:O)<=p);rw[eZ];omega
  have a:(p:O)∣(p:O)^k:=by obtain⟨j,rfl⟩:∃j,k=j+1:=⟨k-1,G⟩;rw[eZ];exact A8 _ _
  have M:=A.fl;let ⟨P,g2⟩:=A.ok g ay;have Q:dn [g]=Z g-1:=rfl;refine⟨J,λi n=>?_,?_⟩
  .have v:i=0:=by simp at n;omega
   subst v;show aL (f.map (dq · ((p:O)^k)))/\(f.map (dq · ((p:O)^k))).length=Z g/\(fx (f.map (dq · ((p:O)^k))):Fx p)=fx g/\∀j,dq ((f.map (dq · ((p:O)^k))).getD j 0) ((p:O)^k)=(f.map (dq · ((p:O)^k))).getD j 0;refine⟨A7 d A.fm,by rw[cR];omega,?_,λj=>?_⟩
   .have t:(fx f:Fx p)=fx g:=by rw[A.pr,gU,gU,mul_one]
    rw[<-t];refine Mw<|Cg.of λi=>?_;rw[cw,cw,pS _ G,<-r9 _ a,yI G,r9 _ a]
   .rw[pS _ G];exact ML<|yI G _
  .show Cg _ (ps f) (ps (f.map (dq · ((p:O)^k)))*1);rw[PS.mul_one];exact Cg.of λi=>by rw[cw,cw,pS _ G,yI G]
 |g::h::r,f,A=>by
  let ⟨I,L⟩:=A.next H B;have x:=ad0 B (h::r) _ L;have d:(1:O)<(p:O)^k:=by obtain⟨j,rfl⟩:∃j,k=j+1:=⟨k-1,G⟩;have:=H.hp.1;have u:(0:O)<(p:O)^j:=mW G;have F:=gG (G:(1:O)<=(p:O)^j) (G:(0:O)<=p);rw[eZ];omega
  have a:(p:O)∣(p:O)^k:=by obtain⟨j,rfl⟩:∃j,k=j+1:=⟨k-1,G⟩;rw[eZ];exact A8 _ _
  rw[rh];generalize (si p k f<|g::h::r).1=m at*;generalize (si p k f<|g::h::r).2=K at*;refine⟨by rw[eB,x.len];rfl,λi n=>?_,?_⟩
  .cases i with
   |zero=>
    show aL (m.map (dq · ((p:O)^k)))/\(m.map (dq · ((p:O)^k))).length=Z g/\(fx (m.map (dq · ((p:O)^k))):Fx p)=fx g/\∀j,dq ((m.map (dq · ((p:O)^k))).getD j 0) ((p:O)^k)=(m.map (dq · ((p:O)^k))).getD j 0
    refine⟨A7 d I.Gm,by rw[cR,I.Gl],?_,λj=>?_⟩
    .rw[<-I.Gp];refine Mw<|Cg.of λi=>?_;rw[cw,cw,pS _ G,<-r9 _ a,yI G,r9 _ a]
    .rw[pS _ G];exact ML<|yI G _
   |succ i=>exact x.ok i (by simp only[eB]at n⊢;omega)
  .show Cg _ (ps f) (ps (m.map (dq · ((p:O)^k)))*oE (rh p k K<|h::r));refine I.pr.trans<|Cg.mul (Cg.of λi=>?_) x.pr;rw[cw,cw,pS _ G,yI G]
omit H in
def apo{l:V (V O)}{i:Y}(a:i+1<Z l):∃c r,az i l=l.getD i []::c::r/\az (i+1) l=c::r:=by
 have f:az i l=l.getD i []::az (i+1) l:=by rw[pn G,aV,cH G];rfl
 have d:az (i+1) l=l.getD (i+1) []::az (i+2) l:=by rw[pn a,aV,cH a];rfl
 exact⟨_,_,by rw[f,d],d⟩
def apq{f:V O}{l:V (V O)}(A:vb p f l){k u w:Y}(k1:1<=k)(kk:k<=1000)(hu:∀i,aJ u (E f i 0))(hw:aJ w ((p:O)^k))(u9:u<=1000)(w9:w<=u)(w1:1<=w):al z 179 [I .z f,I (.sl au) l,cU p,j k] (I (.sl .z)<|rh p k f l):=by
 have IG:=H.hp.1;have adQ:=H.le;have S:(0:O)<(p:O)^k:=mW G;have X4:Z l<=90:=by have h1:=(TA (l:=l) λg hg=>(A.ok g hg).2).1;have d:=A.d9;omega
 refine aR Tryz.func179 ?_;refine N J<|bD J J (Ri p k G G) J<|rb<|fg (.sl .z) [] J J (s J<|U<|N J ?_);refine R<|aY (α:=Y×V O×V (V O)) (λa=>⟨[(0,I .z a.2.1),(1,I (.sl au) l),(2,cU p),(3,j k),(9,.c<|.P 1003000 0),(10,.c<|.X 2000000),(11,j a.1)],[(1003000,.box 42 0<|av .z<|(p:O)^k),(2000000,.vec 161 (.sl .z) a.2.2)],4,[]⟩) (λa=>vb p a.2.1 (az a.1 l)/\a.2.2++rh p k a.2.1 (az a.1 l)=rh p k f l/\Z a.2.2<=a.1/\a.1<=Z l/\(l≠[]->a.1<Z l)/\∀i,aJ u (E a.2.1 i 0)) (λa=>Z l-a.1) (0,f,[]) ⟨A,J,a7 _,be _,λcF=>cQ.2 cF,hu⟩ (wk (bJ J) ⟨bE J J,bR J,e⟩) ?_;rintro⟨i,F,o⟩ ⟨B,v,b3,b4,b5,D⟩;simp only at B v b3 b4 b5 D;have dF:Z F<=91:=by have:=B.fl;have:=B.d9;omega
 refine U<|N J<|y J (λt=>?_)<|λt=>?_
 .have t:i+1<Z l:=by have t:(i:O)+1<(Z l:O):=aK t;omega
  let ⟨b,r,e1,W⟩:=apo t;rw[e1]at B v;let ⟨T,hbz⟩:=B.two H;let ⟨Q,B'⟩:=B.next H k1;have C:=ao7 H (l:=b::r) (λx hx=>⟨(B.ok x lF).1,by have:=(B.ok x lF).2;omega⟩) (by have:=B'.d9;omega) (by rw[<-W];simp;omega);have L:=apd T hbz k1 kk D hw G G w1;have hE:ew p F (l.getD i []) (jD p (b::r)<|Z<|b::r) (xk p (l.getD i [])<|jD p (b::r)<|Z<|b::r) (k-1)=si p k F (l.getD i []::b::r):=rfl;rw[hE]at L;rw[rh]at v;generalize hG:(si p k F<|l.getD i []::b::r).1=M at*;generalize hK:(si p k F<|l.getD i []::b::r).2=K at*;have gB:∀i,aJ w (E M i 0):=λi=>by have:=Q.Gr i;unfold aJ at*;omega
  have kB:∀i,aJ u (K.getD i 0):=λi=>by have:=Q.Kr i;exact aJ.le (by unfold aJ at*;omega:aJ w (K.getD i 0)) w9
  have gl:Z M<=100:=by rw[Q.Gl];exact T.lg
  have m:(1:O)<(p:O)^k:=by have:=Q.Gr<|Z M-1;rw[Q.Gm.2]at this;omega
  have n:=Rk M ((p:O)^k) w G G S gB hw;rw[(A7 m Q.Gm).trim]at n;have ei:ae ((i:O))=i:=bW i;have vO:(E l (ae<|(i:O))<|ET.aD<|.sl au)=l.getD i []:=a8 (λfK=>l.getD fK []) ei;have es:az (ae<|(i:O)+1) (h (Z l) l)=b::r:=by rw[fv,(G:ae ((i:O)+1)=i+1),W]
  rw[<-vO]at L;have C:al z 215 [I (.sl au) (az (ae<|(i:O)+1)<|h (Z l) l),cU p] (I au<|jD p (b::r)<|Z<|b::r):=by rw[es];exact C
  refine aA<|U<|R ?_;refine rb<|rc J J C (rc J J L<|s J ?_) (hp:=aF);refine rb<|rc J J n<|rl (.sl .z) [_] J J (ra J J J J J J J J J ?_ ?_<|s J<|rt J ?_)
  .show(Z o+1+(Z o+1)/4+192)*24<=_;omega
  .show(Z o+1)*1<=_;omega
  refine aX<|rt J (hp:=aF)<|aG (i+1,K,o++[M.map (dq · ((p:O)^k))]) ⟨?_,?_,?_,?_,?_,kB⟩ ?_<|Wk.trans (wk (st':=⟨[(0,I .z K),(1,I (.sl au) l),(2,cU p),(3,j k),(9,.c<|.P 1003000 0),(10,.c<|.X 6006000),(11,j ((i+1:Y):O))],[(1003000,.box 42 0<|av .z<|(p:O)^k),(6006000,.vec 161 (.sl .z)<|o++[M.map (dq · ((p:O)^k))])],16,[]⟩) (bJ J)<|vG J)<|Wk.trans (fa 2000000 6006000 J J J) aH
  .show vb p K (az (i+1) l);rw[W];exact B'
  .show(o++[M.map (dq · ((p:O)^k))])++rh p k K (az (i+1) l)=_;rw[W,<-v,kF];rfl
  .show Z (o++[_])<=i+1;simp;omega
  .show i+1<=_;omega
  .intro _;exact t
  .show Z l-(i+1)<Z l-i;omega
 .have t:¬i+1<Z l:=by have t:¬(i:O)+1<(Z l:O):=aT t;omega
  refine a6<|aO<|U<|N J<|y J (λd=>?_)<|λd=>?_
  .have d:0<Z l:=by have d:(Z l:O)>0:=aK d;omega
   have hi:=b5<|cQ.1 d;have e1:az i l=[l.getD i []]:=by rw[pn G,qp G,aV,cH G];rfl
   rw[e1]at B v;have m:(1:O)<(p:O)^k:=by obtain⟨q,rfl⟩:∃q,k=q+1:=⟨k-1,G⟩;have d:(0:O)<(p:O)^q:=mW G;have h3:=gG (G:(1:O)<=(p:O)^q) (G:(0:O)<=p);rw[eZ];omega
   have n:=Rk F ((p:O)^k) u G G S D<|hw.le w9;rw[(A7 m B.fm).trim]at n;refine bT<|rc J J n<|rl (.sl .z) [_] J J (ra J J J J J J J J J ?_ ?_<|s J ?_)
   .show(Z o+1+(Z o+1)/4+192)*24<=_;omega
   .show(Z o+1)*1<=_;omega
   refine aO<|c6 6005000 J J J<|N J<|bQ J ?_;rw[<-v];rfl
  .have d:l=[]:=fB (by have d:¬(Z l:O)>0:=aT d;omega);subst d;refine aA<|c6 2000000 J J J<|N J<|bQ J ?_;rw[List.drop_nil]at v;rw[<-v];show I (.sl .z) o=_;rw[rh,gO]
end
end Go.El
namespace Go.El
open Go Go.Proofs Go.RowKit
section
variable{n:Y}{sl cu:V (Y×AV)}{mem cv:V (Y×aN)}{nx:Y}{gd cJ:V (Y×Bool)}{ops:Array Oper}{draw:Bool}{p:Pr}{ks dJ:V Ks}{i i' n0 cM:Y}
variable{R:St->Prop}{os:V Oper}{d:Y}{ty:TypeId}{pos:String}{iS:Array Edge}{dX:V Oper}
def rlg l xs{t f:Y}{a}{x m}{g A}(H:runs dK n nx draw ops.toList os i ⟨sl,mem,n0,gd⟩ .t ks=(⟨some d,.buildSlice t f a,ty,pos,iS,some (x,g)⟩::dX,i',⟨cu,cv,cM,cJ⟩,p,dJ))(L:nH ops.toList x=some m)(M:o m cu=some (.c<|.B A))(r:A=g){P}{F}(Q:sK dK ⟨cu,cv,cM,cJ⟩ t f a.toList=some (P,F,xs.flatMap<|av l))
  (W:RG z n ops draw nx (i'+1) dX ⟨(d,.c<|.S l xs)::cu,cv,cM,cJ⟩ (gJ draw dJ (.s m::bF (Op.buildSlice t f a).operands.toList,[.s d])) R) (hT:F.size=l.n:=by rfl) (CM:Z xs=f:=by rfl) (xQ:Nat.ble (f*l.n) 16777216=af:=by rfl)
  (hp:p:=by exact ll) (u:Nat.blt d n=af:=by rfl):RG z n ops draw nx i os ⟨sl,mem,n0,gd⟩ ks R:=
 lj cq H hp (mu (λC=>O9 C J L M r<|VN (ops:= #[⟨some d,.buildSlice t f a,ty,pos,iS,none⟩]) (i:=0) J J J (dc u) _ Po<|λ_ _ _ _ _ _ k v=>Pl cq k J hT CM (dc xQ) Q v)<|mz W)
end
def apt a c:dy (a.num*(c.den:O)) (c.num*(a.den:O))=ni a c:=by
 have g:=Rat.lt_iff a c;have f:=Rat.lt_iff c a;unfold dy ni;by_cases c1:a<c
 .rw[aq c1,aq<|g.1 c1]
 .rw[b c1,b<|λh=>c1<|g.2 h];by_cases d:c<a
  .rw[aq d];first|rw[aq (f.1 d)]|rw[b (by have:=f.1 d;omega)]
  .rw[b d];first|rw[b (λh=>d<|f.2 h)]|rw[aq (by have:=mt f.2 d;have:=mt g.2 c1;omega)]
def apu{k}(u:k<=1000000000)(a d:V D)(v:Z a<=1000)(n:∀i,QS k (E a i 0)):al z 16 [I .q a,I .q d] (cB<|decide<|a=d):=by
 refine aR Tryz.func16 ?_;refine N J<|U<|N J<|y J (λh=>?_)<|λh=>aA ?_
 .have h:=ye h;refine N J<|bI<|cA<|dR J<|a8 cB ?_;rw[ox (λe=>h uA)]
 .have h:=wy h;have p:Z a=Z d:=G;refine U<|N J<|R<|aY (α:=Y) (λi=>⟨[(0,I .q a),(1,I .q d),(5,j i)],[],4,[]⟩) (λi=>i<=Z a/\∀g,g<i->E a g 0=E d g 0) (λi=>Z a-i) 0 ⟨be _,λg m=>absurd m<|CF _⟩ aH ?_;rintro i ⟨x,ht⟩;refine U (N J<|y J (λl=>?_)<|λl=>?_)
  .have l:i<Z a:=by have l:(i:O)<(Z a:O):=aK l;omega
   have r:ae ((i:O))=i:=bW i;have t:al z 21 [aQ (E a (ae<|(i:O)) 0),aQ<|E d (ae<|(i:O)) 0] (cB<|decide<|List.getD a i 0=E d i 0):=by rw[r];exact YL _ _ (n i) G
   refine aA<|U<|R<|w<|rc J J t (s J<|y J (λf=>?_)<|λf=>cZ<|aX ?_) (hp:=aF)
   .have f:E a i 0≠E d i 0:=λe=>by have f:(!decide (List.getD a i 0=E d i 0))=af:=f;rw[rV e]at f;cases f
    refine N J<|bI ?_;repeat(first|refine cA ?_|refine jJ ?_|refine kd ?_)
    refine dR J<|a8 cB ?_;rw[ox (λe=>f uA)]
   .have f:E a i 0=E d i 0:=by
     have f:(!decide (List.getD a i 0=E d i 0))=ah:=f;by_cases e:E a i 0=E d i 0
     .exact e
     .rw[ox e]at f;cases f
    refine rt J<|aG (i+1) ⟨l,λg m=>?_⟩ oq aH;by_cases e:g=i
    .rw[e];exact f
    .exact ht g G
  .have l:i=Z a:=by have l:¬(i:O)<(Z a:O):=aT l;omega
   subst l;refine a6<|aO<|N J<|bQ J<|a8 cB ?_;refine(rV<|Rx.Y3 p λg=>?_).symm;by_cases c:g<Z a
   .exact ht g c
   .rw[Rx.iE a G,Rx.iE d G]
def ad1{k}(r:k<=1000000000) a(t:Z a<=1000)(f:E a (Z a-1) 0≠0)(g:∀i,QS k (E a i 0))(l:a≠[]):al z 35 [I .q a] (cB af):=by
 refine aR Tryz.func35 ?_;have u:=cQ.2 l;refine N J<|U<|N J ?_;refine R<|aY (α:=Y) (λi=>⟨[(0,I .q a),(3,j i)],[],4,[]⟩) (λi=>i<=Z a) (λi=>Z a-i) 0 (be _) aH ?_;intro i v;refine U<|N J<|y J (λc=>?_)<|λc=>?_
 .have c:i<Z a:=by have c:(i:O)<(Z a:O):=aK c;omega
  have m:=aj5 (k:=k) (E a (ae<|(i:O)) 0) (g _) G;refine aA<|U<|R<|w<|rc J J m (s J<|y J (λd=>by cases d)<|λd=>cZ<|aX ?_) (hp:=aF);exact rt J<|aG (i+1) c oq aH
 .refine a6<|aO ?_;have n:ae ((Z a:O)-1)=Z a-1:=G;have p:=Gz<|E a (ae<|(Z a:O)-1) 0;refine w (rg 19 J J (λh=>?_)<|λ_=>gK J J J J J p (s J<|bQ J<|a8 cB ?_) (hp:=aF))
  .exfalso;have h:((Z a:O)==0)=af:=h;have:=eq_of_beq h;omega
  .show(dY (E a (ae<|(Z a:O)-1) 0).num !=0)=af;rw[n];exact bne_iff_ne.2 λe=>f<|AJ<|uz.1 e
def apv{k}(t:k<=1000000000) a c(u:Z a<=1000)(v:Z c<=1000)(n:∀i,QS k (E a i 0))(p:∀i,QS k (E c i 0)):al z 181 [I .q a,I .q c] (cB<|decide<|iH a c<0):=by
 refine aR Tryz.func181 ?_;refine N J<|U<|N J<|y J (λh=>?_)<|λh=>aA ?_
 .have h:=ye h;refine N J<|bI<|cA<|dR J<|a8 cB ?_;rw[iH,aq G,oL];refine decide_eq_decide.2 ⟨λf=>by rw[aq f];decide,λf=>?_⟩;split at f
  .assumption
  .split at f<;>omega
 .have h:(Z a:O)=(Z c:O):=wy h;rw[show iH a c=pX a c (Z a)by rw[iH,b G]];refine U<|N J ?_;refine R<|aY (α:=Y) (λk=>⟨[(0,I .q a),(1,I .q c),(5,cI<|(k:O)-1)],[],4,[]⟩) (λk=>k<=Z a/\pX a c (Z a)=pX a c k) (λk=>k) (Z a) ⟨a7 _,J⟩ aH ?_;rintro i ⟨x,hc⟩;refine U (N J<|y J (λg=>?_)<|λg=>?_)
  .have g:0<i:=by have g:(i:O)-1>=0:=aK g;omega
   obtain⟨j,rfl⟩:∃j,i=j+1:=⟨i-1,G⟩;have r:ae (((j+1:Y):O)-1)=j:=G;have m:al z 216 [aQ (E a (ae<|((j+1:Y):O)-1) 0),aQ<|E c (ae<|((j+1:Y):O)-1) 0] (cI<|ni (E a j 0)<|E c j 0):=by rw[r,<-apt];exact aj0 (k:=k) _ _ (n _) (p _) G
   rw[pX]at hc;rw[hc];generalize ni (E a j 0) (E c j 0)=l at*;refine aA<|U<|R<|w<|rc J J m (s J<|y J (λd=>?_)<|λd=>cZ<|aX ?_) (hp:=aF)
   .have d:l≠0:=bne_iff_ne.1 d;refine w<|rc J J m (s J<|bI ?_) (hp:=aF);repeat(first|refine cA ?_|refine jJ ?_|refine kd ?_)
    refine dR J ?_;rw[aq d]
   .have d:l=0:=by
     have d:(l !=0)=ah:=d;by_cases f:l=0
     .exact f
     .rw[bne_iff_ne.2 f]at d;cases d
    refine rt J (hp:=aF)<|aG j ⟨G,?_⟩ rQ<|wk ⟨sR J,sR J,sE J ?_,e⟩ e
    .exact b<|λf=>f d
    .exact im (G:((j+1:Y):O)-1-1=(j:O)-1)
  .have g:i=0:=by have g:¬(i:O)-1>=0:=aT g;omega
   subst g;rw[hc];exact a6<|aO<|N J<|cx J
def apw l x(hl:Z l<=1000)(L:EG 20 x)(M:∀p∈l,EG 20 p):al z 142 [I UT l,.a<|av UT x] (I UT<|rf ([],0) (λp=>decide<|iH x.1 p.1<0) x l):=by
 refine aR Tryz.func142 ?_;have u:=Ua ([],0) (λp=>decide<|iH x.1 p.1<0) x l;have Q:=T9 ([],0) (λp=>decide<|iH x.1 p.1<0) x l;generalize C:iv ([],0) (λp=>decide<|iH x.1 p.1<0) x l=f at*;refine N J<|w<|fg UT [] J J (s J<|N J<|U<|N J ?_);refine R<|aY (α:=Y) (λi=>⟨[(0,I UT l),(3,.c<|.P 0 0),(5,.c<|.X 1000000),(6,cB (f i).1),(7,j i)],[(0,.box 114 0<|av UT x),(1000000,.vec 114 UT (f i).2)],4,[]⟩) (λi=>i<=Z l) (λi=>Z l-i) 0 (be _) (by rw[<-C];exact(wk (bJ J) ⟨bE J J,bR J,e⟩)) ?_;intro i D;have v:=u i;have S:(f i).2.length<=1001:=by split at v<;>omega
 refine U<|N J<|y J (λh1=>?_)<|λh1=>?_
 .have h1:i<Z l:=by have h1:(i:O)<(Z l:O):=aK h1;omega
  have W:ae ((i:O))=i:=bW i;have F:(E l (ae<|(i:O))<|ET.aD UT)=E l i ([],0):=a8 (λb=>E l b ([],0)) W;have K:=M (E l i ([],0)) NY;have H:=apv (k:=20) T x.1 (E l i ([],0)).1 L.l K.l L.q K.q;have g:=Q i;have A:=u<|i+1;rw[<-F]at*;obtain⟨V,m⟩:∃V,V=if(!(f i).1&&decide (iH x.1 (E l (ae<|(i:O))<|ET.aD UT).1<0))=af then(f i).2++[x]else(f i).2:=⟨_,J⟩
  have B:(f<|i+1).2=V++[E l (ae<|(i:O)) (ET.aD UT)]:=by rw[g,m];split<;>rfl
  have o:Z V<=1001:=by rw[B,hP,qB]at A;split at A<;>omega
  refine aA<|U<|R ?_;refine jk ⟨[(0,I UT l),(3,.c<|.P 0 0),(5,.c<|.X 1000000),(6,cB (f<|i+1).1),(7,j i)],[(0,.box 114 0<|av UT x),(1000000,.vec 114 UT V)],8,[]⟩ ?_<|λr=>w<|rg 17 J J (λd=>?_)<|λd=>?_
  .refine bT (rl UT [_] J J (ra J J J J J J J J J ?_ ?_<|s J ?_) (hp:=aF))
   .show(_+1+(_+1)/4+192)*32<=_;omega
   .show(_+1)*2<=_;omega
   refine aX<|rt J<|aG (i+1) h1 uN<|Wk.trans (wk (st':=⟨[(0,I UT l),(3,.c<|.P 0 0),(5,.c<|.X 8006000),(6,cB (f<|i+1).1),(7,j ((i+1:Y):O))],[(0,.box 114 0<|av UT x),(8006000,.vec 114 UT (f<|i+1).2)],16,[]⟩) (bJ J) ⟨bR J,bE J ?_,e⟩)<|Wk.trans (fa 1000000 8006000 J J J) aH;rw[B]
  .have d:(f i).1=ah:=by
    cases t:(f i).1
    .rfl
    .rw[t]at d;cases d
   refine gK J J J J J H (s J<|y J (λn=>?_)<|λn=>?_) (hp:=aF)
   .have n:decide (iH x.1 (E l (ae<|(i:O))<|ET.aD UT).1<0)=af:=n;rw[d,n]at m;rw[d,n]at g;have m:V=(f i).2++[x]:=m;refine w (rl UT [x] J J (ra J J J J J J J J J ?_ ?_<|s J ?_))
    .show(_+1+(_+1)/4+192)*32<=_;omega
    .show(_+1)*2<=_;omega
    refine rt J<|dM r<|Wk.trans (wk (st':=⟨[(0,I UT l),(3,.c<|.P 0 0),(5,.c<|.X 6003000),(6,cB (f<|i+1).1),(7,j i)],[(0,.box 114 0<|av UT x),(6003000,.vec 114 UT V)],8,[]⟩) ⟨sR J,sR J,sR J,sE J ?_,sR J,e⟩ ⟨bR J,bE J ?_,e⟩)<|Wk.trans (fa 1000000 6003000 J J J) aH
    .rw[g];rfl
    .rw[m]
   .have n:decide (iH x.1 (E l (ae<|(i:O))<|ET.aD UT).1<0)=ah:=n;rw[d,n]at m;rw[d,n]at g;have m:V=(f i).2:=m;refine cZ (dM r<|wk ⟨sR J,sR J,sR J,sE J ?_,sR J,e⟩ ⟨bR J,bE J ?_,e⟩)
    .rw[g,d];rfl
    .rw[m]
  .have d:(f i).1=af:=by
    cases t:(f i).1
    .rw[t]at d;cases d
    .rfl
   rw[d]at m;rw[d]at g;have m:V=(f i).2:=m;refine s J<|y J (λn=>by cases n)<|λn=>cZ<|dM r<|wk ⟨sR J,sR J,sR J,sE J ?_,sR J,e⟩ ⟨bR J,bE J ?_,e⟩
   .rw[g,d];rfl
   .rw[m]
 .have h1:i=Z l:=by have h1:¬(i:O)<(Z l:O):=aT h1;omega
  subst h1;refine a6<|aO<|U<|N J<|y J (λd=>?_)<|λd=>?_
  .have d:(f<|Z l).1=ah:=by
    cases t:(f<|Z l).1
    .rfl
    .rw[t]at d;cases d
   refine bT<|rl UT [x] J J (ra J J J J J J J J J ?_ ?_<|s J ?_)
   .show(_+1+(_+1)/4+192)*32<=_;omega
   .show(_+1)*2<=_;omega
   refine aO<|c6 6003000 J J J<|N J<|bQ J ?_;unfold rf;rw[C,d];rfl
  .have d:(f<|Z l).1=af:=by
    cases t:(f<|Z l).1
    .rw[t]at d;cases d
    .rfl
   refine aA<|c6 1000000 J J J<|N J<|bQ J ?_;unfold rf;rw[C,d];rfl
def apx a n(H:n<=1000)(L:Z a<=13)(u:∀i,aJ n (E a i 0)):al z 176 [I .z a] (aZ ((fU a:Y):O)):=by
 refine aR Tryz.func176 ?_;have v:∀i,i<=Z a->aJ (n+1) ((lr a i:Y):O):=λi x=>ZD a u G
 have t:∀d,d<=12->aJ (n+2) ((lr a (Z a)*2^d:Y):O):=λd A=>by have g:=v (Z a)<|a7 _;have p:2^d<=2^12:=fT T A;unfold aJ at*;rw[oA]at*;have f:lr a (Z a)*2^d<=lr a (Z a)*2^12:=jh _ p;rw[fF];generalize (4294967296:Y)^(n+1)=M at*;omega
 refine N J<|bD J J (iD 0 T T) J<|U<|N J ?_;refine R<|aY (α:=Y) (λi=>⟨[(0,I .z a),(2,.c<|.P 0 0),(3,.c<|.P 1001000 0),(4,j i)],[(0,.box 42 0 [.B ah,.V<|.slice none 0 0]),(1001000,.box 42 0<|av .z ((lr a i:Y):O))],3,[]⟩) (λi=>i<=Z a) (λi=>Z a-i) 0 (be _) (wk (bJ J) ⟨bE J J,bE J J,e⟩) ?_;intro i x;refine U<|N J<|y J (λh=>?_)<|λh=>?_
 .have h:i<Z a:=by have h:(i:O)<(Z a:O):=aK h;omega
  have r:ae ((i:O))=i:=bW i;have C:=Ao<|E a (ae<|(i:O)) 0;have g:=((v i x).sm G);have p:=(u<|ae<|(i:O)).sm (by omega:n<=1099511627776);have k:=Qz _ _ g p;have l:=we _ _ g p;have m:((lr a (i+1):Y):O)=((lr a i:Y):O)+(aC (E a i 0):O):=by rw[lr,wh]
  refine aA<|U<|R ?_;refine w<|rc J J C (s J<|y J (λf=>?_)<|λf=>?_) (hp:=aF)
  .have f:dY (E a (ae<|(i:O)) 0)<0:=aK f;rw[LI,r]at f;refine bT<|rc J J k (s J<|aX<|rt J (hp:=aF)<|aG (i+1) h oq<|wk (bJ J) ⟨bE J J,bE J ?_,e⟩) (hp:=aF);rw[m,(G:(aC (E a i 0):O)= -(E a i 0)),r];rfl
  .have f:¬dY (E a (ae<|(i:O)) 0)<0:=aT f;rw[LI,r]at f;refine bT<|rc J J l (s J<|aX<|rt J (hp:=aF)<|aG (i+1) h oq<|wk (bJ J) ⟨bE J J,bE J ?_,e⟩) (hp:=aF);rw[m,(G:(aC (E a i 0):O)=E a i 0),r];rfl
 .have h:i=Z a:=by have h:¬(i:O)<(Z a:O):=aT h;omega
  subst h;refine a6<|aO<|U<|N J ?_;refine R<|aY (α:=Y) (λd=>⟨[(0,I .z a),(2,.c<|.P 0 0),(3,.c<|.P 1001000 0),(5,j ((d+1:Y):O))],[(0,.box 42 0 [.B ah,.V<|.slice none 0 0]),(1001000,.box 42 0<|av .z ((lr a (Z a)*2^d:Y):O))],8,[]⟩) (λd=>d<=Z a-1) (λd=>Z a-d) 0 (be _) (wk (bJ J) ⟨bE J J,bE J ?_,e⟩) ?_
  .rw[py,qD]
  intro d A;refine U<|N J<|y J (λh=>?_)<|λh=>?_
  .have h:d+1<Z a:=by have h:((d+1:Y):O)<(Z a:O):=aK h;omega
   have g:=((t d G).sm G);refine aA<|U<|R<|bT<|rc J J (we _ _ g g)<|s J<|aX<|rt J (hp:=aF)<|aG (d+1) G (G:Z a-(d+1)<Z a-d)<|wk (bJ J) ⟨bE J J,bE J ?_,e⟩;rw[fF,<-wh,<-Nat.two_mul,gN 2,yd];rfl
  .have h:¬((d+1:Y):O)<(Z a:O):=aT h;have F:d=Z a-1:=G;subst F;exact a6<|aO<|N J<|bQ J J
def ri(f:V O)(k:Y):O:=if k=Z f-1 then 1 else E f k 0*E f (Z f-1) 0^(Z f-2-k)
def N1(f:V O):V O:=(cc<|Z f).map<|ri f
def apy f(F:1<=Z f)(H:Z f<=12)(u:∀i,aJ 210 (E f i 0)):al z 170 [I .z f] (I .z<|N1 f):=by
 refine aR Tryz.func170 ?_;obtain⟨n,A⟩:∃n,Z f=n+1:=⟨Z f-1,G⟩;have l:oM (ri f) 0 (Z f) (Z f)=N1 f:=aog _ _ _;have m:∀k,k<=12->aJ 2600 (E f n 0^k):=λk B=>((u n).pow k).le (by have:=jh 210 B;omega)
 refine N J<|N J<|w<|rm .z (Z f) J J J J J J KE ?_ ?_ ?_<|s J ?_
 .show(Z f:O)-1+1=(Z f:O);omega
 .show Z f*32<=_;omega
 .show Z f*2<=_;omega
 refine w<|rc J J (iD 1 T T)<|xW (T:= .z) (1:O) J J J J J ?_ (s J ?_) (hp:=?_)
 .rw[fE];omega
 .refine bD J J (iD 1 T T) J<|U<|N J ?_;refine R (aY (α:=Y) (λa=>⟨[(0,I .z f),(3,j n),(4,.c<|.X 2002000),(5,.c<|.P 4001000 0),(6,j<|(n:O)-1-a)],[(2002000,.vec 42 .z<|oM (ri f) 0 (Z f)<|a+1),(4001000,.box 42 0<|av .z<|E f n 0^a)],8,[]⟩) (λa=>a<=n) (λa=>n-a) 0 (be _) (wk ⟨sR J,sE J ?_,sR J,sR J,sE J ?_,e⟩ ⟨bE J ?_,bE J ?_,e⟩) ?_)
  .exact a8 j (G:(Z f:O)-1=n)
  .exact a8 j (G:(Z f:O)-1-1=(n:O)-1-(0:Y))
  .refine a8 (aN.vec 42 .z) ?_;rw[aof (ri f) 0 (Z f),(G:ae ((Z f:O)-1)=Z f-1-0),<-acP (ri f) 0 (G:0<Z f)];congr 1;show(1:O)=ri f (Z f-1-0);rw[ri,aq G]
  .rw[ow];rfl
  intro a C;refine U<|N J<|y J (λd=>?_)<|λd=>?_
  .have d:a<n:=by have d:(n:O)-1-(a:O)>=0:=aK d;omega
   have x:ae ((n:O)-1-(a:O))=Z f-1-(a+1):=G;have g:=m a G;have p:=kg (E f (ae<|(n:O)-1-(a:O)) 0) (E f n 0^a) ((u _).sm G)<|g.sm G;have v:E f (ae<|(n:O)-1-(a:O)) 0*E f n 0^a=ri f (Z f-1-(a+1)):=by rw[x,ri,b G,(G:Z f-1=n),(G:Z f-2-(n-(a+1))=a)]
   rw[v]at p;have r:=kg (E f n 0^a) (E f n 0) (g.sm G)<|(u n).sm G;rw[<-eZ]at r;have K:ae ((n:O))=n:=bW n;have t:=aoe (ri f) 0 (Z f)<|a+1;refine aA<|U<|R<|w ?_;refine rc J J p ?_ (hp:=aF);refine xW (T:= .z) (ri f<|Z f-1-(a+1)) J J J J J ?_ (s J ?_) (hp:=?_)
   .rw[t];omega
   .clear g m u;refine bT (rc J J r (s J<|aX<|rt J<|aG (a+1) d (G:n-(a+1)<n-a)<|wk ⟨sR J,sR J,sR J,sR J,sE J ?_,e⟩ ⟨bE J ?_,bE J J,e⟩) (hp:=aF))
    .exact a8 j G
    .rw[x,acP (ri f) 0 (G:a+1<Z f)]
   .simp only[Pr.an,Pr.h,num,fR,true_and,and_true];rw[t];omega
  .have d:a=n:=by have d:¬(n:O)-1-(a:O)>=0:=aT d;omega
   subst d;rw[<-A,l];exact a6<|aO<|c6 2002000 J J J<|N J<|cx J
 .simp only[Pr.an,Pr.h,num,fR,true_and,and_true];rw[fE];omega
def apz c g{i}(a:i<Z g):az i (jP c g)=Rat.divInt (E g i 0) ((c:O)^(Z g-1-i))::az (i+1) (jP c g):=by have d:=NQ c g;rw[pn G];have:=TP c g a;rw[aV,cH G]at this;rw[<-this];rfl
def apA g(c:Y)(c0:0<c)(F:Z g<=12)(v:∀i,aJ 210 (E g i 0))(m:aJ 210 (c:O)):al z 180 [I .z g,aZ c] (I .q<|jP c g):=by
 refine aR Tryz.func180 ?_;have f:∀k,k<=12->Sm ((c:O)^k):=λk x=>(m.pow k).sm (by have:=jh 210 x;omega)
 have n:∀k,(c:O)^k≠0:=λk=>Int.ne_of_gt<|mW G
 have p:∀i,Sm (E g i 0):=λi=>(v i).sm G
 have r:Sm (c:O):=m.sm G;clear v m;have A:=NQ c g;refine N J<|w<|rl .q [] J J (s J<|bD J J (iD 1 T T) J<|U<|N J ?_);refine R<|aY (α:=Y) (λa=>⟨[(0,I .z g),(3,.c<|.P 0 0),(5,I .q<|az (Z g-a)<|jP c g),(6,.c<|.P 2001000 0),(7,j<|(Z g:O)-1-a)],[(0,.box 42 0<|av .z (c:O)),(2001000,.box 42 0<|av .z<|(c:O)^a)],4,[]⟩) (λa=>a<=Z g) (λa=>Z g-a) 0 (be _) (wk ⟨sR J,sR J,sE J ?_,sR J,sE J ?_,e⟩ ⟨bE J J,bE J ?_,e⟩) ?_
 .rw[Dy,qp G]
 .exact a8 j (G:(Z g:O)-1=(Z g:O)-1-(0:Y))
 .rw[ow];rfl
 intro a C;refine U<|N J<|y J (λd=>?_)<|λd=>?_
 .have d:a<Z g:=by have d:(Z g:O)-1-(a:O)>=0:=aK d;omega
  have B:ae ((Z g:O)-1-(a:O))=Z g-1-a:=G;have t:=Rh (E g (ae<|(Z g:O)-1-(a:O)) 0) ((c:O)^a) (n a) (p _)<|f a G;have u:=kg ((c:O)^a) c (f a G) r;have l:=apz c g (i:=Z g-(a+1)) G;rw[(G:Z g-1-(Z g-(a+1))=a),(G:Z g-(a+1)+1=Z g-a)]at l;refine aA<|U<|R ?_;refine w<|rc J J t (s J ?_) (hp:=aF);refine w<|fg .q [_] J J (ra J J J J J J J J J ?_ ?_<|s J<|c6 6003000 J J J ?_)
  .show(1+Z (az (Z g-a)<|jP c g)+(1+Z (az (Z g-a)<|jP c g))/4+192)*64<=_;rw[CI];omega
  .show(1+Z (az (Z g-a)<|jP c g))*4<=_;rw[CI];omega
  refine bT<|rc J J u<|s J<|aX<|rt J (hp:=aF)<|aG (a+1) d (G:Z g-(a+1)<Z g-a)<|wk ⟨sR J,sR J,sE J ?_,sR J,sE J ?_,e⟩ ⟨bR J,bE J ?_,e⟩
  .rw[l,B,(G:Z g-1-a=Z g-(a+1))];rfl
  .exact a8 j (G:(Z g:O)-1-a-1=(Z g:O)-1-(a+1:Y))
  .rw[eZ];rfl
 .have d:a=Z g:=by have d:¬(Z g:O)-1-(a:O)>=0:=aT d;omega
  subst d;rw[mr,o5];exact a6<|aO<|N J<|cx J
def ad2(a:Y->Bool):∀n,bU a (n+1)=(if a 0 then 1 else 0)+bU (λi=>a<|i+1) n
 |0=>by rw[bU,bU,bU];omega
 |n+1=>by rw[bU,ad2 a n,bU];omega
def apB k n:bU k.testBit (n+1)=k%2+bU (k/2).testBit n:=by
 rw[ad2];congr 1
 .rw[Nat.testBit_zero];rcases Nat.mod_two_eq_zero_or_one k with e|e<;>rw[e]<;>rfl
 .exact H3 λi _=>by rw[Nat.testBit_succ]
def ad3(a:Y->Bool):∀n,bU a n<=n
 |0=>a7 _
 |n+1=>by have:=ad3 a n;rw[bU];split<;>omega
def ad4 n:bU (0:Y).testBit n=0:=by
 induction n with
 |zero=>rfl
 |succ n a=>rw[bU,a,Nat.zero_testBit];rfl
def apC(k n:Y)(g:k<2^n)(r:n<=60):al z 210 [j k] (j<|bU k.testBit n):=by
 refine aR Tryz.func210 ?_;have t:k<2^60:=iz g<|fT T r;refine N J<|N J<|U<|N J ?_;refine R<|aY (α:=Y×Y×Y) (λx=>⟨[(3,j x.1),(4,j x.2.1)],[],4,[]⟩) (λx=>x.2.1<2^x.2.2/\x.1+bU x.2.1.testBit x.2.2=bU k.testBit n/\x.2.1<=k) (λx=>x.2.1) (0,k,n) ⟨g,eF _,a7 _⟩ aH ?_;rintro⟨o,m,l⟩ ⟨f,d,u⟩;simp only at f d u;have v:=ad3 k.testBit n;refine U<|N J<|y J (λa=>?_)<|λa=>?_
 .have a:0<m:=by have a:(m:O)>0:=aK a;omega
  obtain⟨i,rfl⟩:∃i,l=i+1:=by
   cases l with
   |zero=>rw[py]at f;omega
   |succ i=>exact⟨i,J⟩
  rw[apB]at d;rw[fF]at f;have p:(m:O).tmod 2=((m%2:Y):O):=lN m 2;have A:(m:O).tdiv 2=((m/2:Y):O):=(Int.ofNat_tdiv m 2).symm;refine aA<|U<|R<|rt J (aX<|rt J<|aG (o+m%2,m/2,i) ⟨?_,?_,?_⟩ ?_<|wk ⟨sE J ?_,sE J ?_,e⟩ e) (hp:=?_)
  .show m/2<2^i;omega
  .show o+m%2+bU (m/2).testBit i=_;omega
  .show m/2<=k;omega
  .show m/2<m;omega
  .show AV.c (C.I .i64<|(o:O)+(m:O).tmod 2)=_;rw[p];rfl
  .show AV.c (C.I .i64<|(m:O).tdiv 2)=_;rw[A]
  .show(_:Pr).h;simp only[Pr.an,Pr.h,num,fR,true_and,and_true];rw[p];omega
 .have a:m=0:=by have a:¬(m:O)>0:=aT a;omega
  subst a;rw[ad4,jd]at d;subst d;exact a6<|aO<|N J<|cx J
def kD(F g:V O):V O:=bp (Z F-Z g) 0++g.map (E F (Z F-1) 0*·)
def BA(g:V O)(x:V O×V O):V O×V O:=(aS<|kC x.1<|kD x.1 g,x.2.set (Z x.1-Z g)<|E x.1 (Z x.1-1) 0)
def vd(g:V O):Y->V O×V O->V O×V O
 |0,x=>x
 |n+1,x=>if Z x.1<Z g then x else vd g n (BA g x)
structure ve(f g:V O)(u v:Y)(x:V O×V O):Prop where
 can:can x.1
 eq:Rx.zx f=Rx.zx x.2*Rx.zx g+Rx.zx x.1
 ql:x.2.length=f.length+1-g.length
 fl:x.1.length<=f.length
 z:∀i,i+g.length<=x.1.length->x.2.getD i 0=0
 B:∀i,aJ (u+(f.length-x.1.length)*(v+1)) (x.1.getD i 0)
def N2{F g}(a:Z g<=Z F) i:E (kD F g) i 0=if Z F-Z g<=i then E F (Z F-1) 0*E g (i-(Z F-Z g)) 0 else 0:=by
 unfold kD;by_cases c:Z F-Z g<=i
 .rw[aq c,aV,Ck (by simpa using c),fE,<-aV];exact getD_map (f:=(E F (Z F-1) 0*·)) (gn _) g _
 .rw[b c,aV,Cj bX,ln,aq G];rfl
def apD{F g}(a:Z g<=Z F):Z (kD F g)=Z F:=by simp[kD];omega
def apE{F g}(a:Z g<=Z F):Rx.zx (kD F g)=Rx.K ((E F (Z F-1) 0:O):D)*(Rx.X (Z F-Z g)*Rx.zx g):=Rx.ext λi=>by
 rw[Rx.kq,N2 a,Rx.fV,Rx.mG];split
 .rw[Rx.kq,fh]
 .rw[fN];rfl
def apF a:Rx.zx (aS a)=Rx.zx a:=Rx.ext λi=>by rw[Rx.kq,Rx.kq];congr 1;rw[<-cw,pG,cw]
def apG a c:Rx.zx (kC a c)=Rx.zx a-Rx.zx c:=Rx.ext λi=>by rw[Rx.yg,Rx.kq,Rx.kq,Rx.kq,EI,Ma]
section
variable{f g:V O}{u v:Y}
def ve.next(l:aL g)(p:∀i,aJ v (E g i 0)){x}(a:ve f g u v x)(A:¬Z x.1<Z g):ve f g u v (BA g x)/\(BA g x).1.length<Z x.1/\∀i,aJ (u+(Z f-Z x.1)*(v+1)+v+1) (E (kC x.1<|kD x.1 g) i 0):=by
 have C:=cQ.2 l.1;have c:Z g<=Z x.1:=G;have m:∀i,aJ (u+(Z f-Z x.1)*(v+1)+v+1) (E (kC x.1<|kD x.1 g) i 0):=λi=>by
  rw[EI,N2 c];split
  .exact((a.B i).le G).sub<|(a.B _).mul<|p _
  .rw[Am];exact(a.B i).le G
 have d:∀i,Z x.1-1<=i->E (kC x.1<|kD x.1 g) i 0=0:=λi n=>by
  rw[EI,N2 c,aq G];rcases apc n with e|e
  .rw[eK x.1 G,eK g G,gn];rfl
  .rw[<-e,(G:Z x.1-1-(Z x.1-Z g)=Z g-1),l.2,mF,Int.sub_self]
 have k:(BA g x).1.length<Z x.1:=by
  show Z (aS<|kC x.1<|kD x.1 g)<_;rcases ES (kC x.1<|kD x.1 g)with e|e
  .rw[e];simp;omega
  .refine Nat.lt_of_not_le λF=>e ?_
   rw[<-cw,pG,cw];exact d _ G
 have r:=a.ql;have t:=a.fl;refine⟨⟨ES _,?_,by show(x.2.set _ _).length=_;rw[rH];exact a.ql,G,λi n=>?_,λi=>?_⟩,k,m⟩
 .show Rx.zx f=Rx.zx (x.2.set (Z x.1-Z g)<|E x.1 (Z x.1-1) 0)*Rx.zx g+Rx.zx (aS<|kC x.1<|kD x.1 g);rw[alS _ G (a.z _ G),apF,apG,apE c,a.eq,Rx.add_mul,Rx.mul_assoc (Rx.K _)<|Rx.X _];generalize Rx.K ((E x.1 (Z x.1-1) 0:O):D)*(Rx.X (Z x.1-Z g)*Rx.zx g)=w;rw[Rx.add_assoc,Rx.add_comm w,Rx.kU]
 .show(x.2.set (Z x.1-Z g) _).getD i 0=0;rw[sY _ _ _ _ G,b G];exact a.z i G
 .show aJ _ (E (aS<|kC x.1<|kD x.1 g) i 0);rw[<-cw,pG,cw];refine(m i).le ?_;have:(Z f-Z x.1+1)*(v+1)<=(Z f-(BA g x).1.length)*(v+1):=dT _ G;rw[fD,hO]at this;omega
def ad5(c:aL g)(d:∀i,aJ v (E g i 0)):∀(n:Y)(x:V O×V O),ve f g u v x->Z x.1<n->ve f g u v (vd g n x)/\(vd g n x).1.length<Z g
 |0,x,_,l=>by omega
 |n+1,x,k,l=>by
  rw[vd];split
  .rename_i a;exact⟨k,a⟩
  .rename_i a;let ⟨m,p,_⟩:=k.next c d a;exact ad5 c d n _ m G
open Classical in
noncomputable def tN(f g:V O):V O:=if Rx.zx g∣Rx.zx f then lY f g else[]
def ve.start(c:Go.El.can f)(d:∀i,aJ u (E f i 0)):ve f g u v (f,bp (Z f+1-Z g) 0):=by
 have a:∀m i,E (bp m (0:O)) i 0=0:=λm i=>by rw[aV,ln];split<;>rfl
 refine⟨c,?_,fE,a7 _,λi _=>a _ i,λi=>(d i).le G⟩;rw[show Rx.zx (bp (Z f+1-Z g) (0:O))=0 from Rx.ext λi=>by rw[Rx.kq,a];rfl,Rx.zero_mul,Rx.zero_add]
def apH(n:aL f)(m:aL g)(F:∀i,aJ u (E f i 0))(H:∀i,aJ v (E g i 0)):(if(vd g (Z f+1) (f,bp (Z f+1-Z g) 0)).1=[]then(vd g (Z f+1) (f,bp (Z f+1-Z g) 0)).2 else[])=tN f g:=by
 let ⟨I,hl⟩:=ad5 (f:=f) (u:=u) m H (Z f+1) _ (ve.start n.can F)<|dL _;generalize vd g (Z f+1) (f,bp (Z f+1-Z g) 0)=x at*;have c:=Rx.ns m;unfold tN;by_cases e:x.1=[]
 .rw[aq e];have C:Rx.zx x.1=0:=by rw[e];exact Rx.pJ
  have a:=I.eq;rw[C,Rx.add_zero]at a;rw[aq ⟨_,a⟩];have d:Rx.Mo (Rx.zx x.2):=by have:=Rx.ns n;rw[a]at this;exact this.yu c
  have K:=I.ql;have p:=Rx.dG d.ne c.ne;rw[<-a,Rx.kr n.can,Rx.kr m.can]at p;have l:aL x.2:=by have L:Z x.2=Rx.sz (Rx.zx x.2):=G;have r:Rx.zx x.2 (Rx.sz (Rx.zx x.2)-1)=1:=d;have S:=Rx.eL d.ne;rw[<-L,Rx.kq]at r;exact⟨λe=>by have W:Z x.2=0:=a8 Z e;omega,wT.1 (r.trans Rat.intCast_one.symm)⟩
  have k:∃q,aL q/\Rx.zx f=Rx.zx g*Rx.zx q:=⟨_,l,by rw[Rx.mul_comm];exact a⟩;have M:lY f g=A2 k:=by unfold lY;rw[dif_pos k]
  let ⟨c1,t⟩:=uC k;rw[<-M]at c1 t;exact(Rx.aly c1.can l.can<|Rx.yt c.ne<|by rw[<-a,t,Rx.mul_comm]).symm
 .rw[b e,b λA=>e ?_];have a:=I.eq;rw[a]at A;have P:=Rx.wJ A<|Rx.dvd_mul_left _ _;have Q:=Rx.uF P (by rw[Rx.kr m.can,Rx.kr I.can];exact hl);have B:=Rx.kr I.can;rw[Q,Rx.ko]at B;exact fB B.symm
def apI t(a:t<=1000):(Z (bp t (0:O))+1+(Z (bp t (0:O))+1)/4+192)*32<=281474976710656:=by rw[fE];omega
def apJ t(a:t<=1000):(Z (bp t (0:O))+1)*2<=140737488355328:=by rw[fE];omega
def ad6(a:V O)(c:Z a<=200):(Z a+1+(Z a+1)/4+192)*32<=281474976710656:=G
def ad7(a:V O)(c:Z a<=200):(Z a+1)*2<=140737488355328:=G
def apK(hf:aL f)(hg:aL g)(hu:∀i,aJ u (E f i 0))(hv:∀i,aJ v (E g i 0))(lf:Z f<=100)(lg:Z g<=100)(u9:u<=1000)(v9:v<=100):al z 213 [I .z f,I .z g] (I .z<|tN f g):=by
 rw[<-apH hf hg hu hv];have I0:=ve.start (u:=u) (v:=v) (g:=g) hf.can hu;have pg:=cQ.2 hg.1;have pf:=cQ.2 hf.1;generalize hm:Z f+1-Z g=m at*;have hv9:(v+1)*100<=10100:=G;generalize hX:vd g (Z f+1) (f,bp m 0)=X;refine CC Tryz.func213 J J J J J T ?_;refine N J<|w<|rm .z m J J J J J J KE ?_ ?_ ?_<|s J<|U<|N J ?_
 .rw[aq J];split<;>omega
 .show m*32<=_;omega
 .show m*2<=_;omega
 refine R<|aY (α:=Y) (λi=>⟨[(0,I .z f),(1,I .z g),(5,.c<|.X 1007000),(6,j i)],[(1007000,.vec 42 .z<|bp m 0)],3,[]⟩) (λi=>i<=m) (λi=>m-i) 0 (be _) aH ?_;intro i hi;refine U<|N J<|y J (λd=>?_)<|λd=>?_
 .have d:i<m:=by have d:(i:O)<(Z (bp m (0:O)):O):=aK d;rw[fE]at d;omega
  refine cZ<|aO<|U<|R<|bT<|rc J J (iD 0 T T)<|xW (T:= .z) (0:O) J J J J J ?_ (s J<|eH<|aO<|rt J (hp:=aF)<|aG (i+1) d (G:m-(i+1)<m-i)<|wk (bJ J) ⟨bE J ?_,e⟩) (hp:=?_)
  .show ae ((i:O))<_;rw[fE];omega
  .refine a8 (aN.vec 42 .z)<|sL ay λk l p=>?_;rw[List.getElem_set];split<;>simp
  .simp only[Pr.an,Pr.h,num,fR,true_and,and_true];rw[fE];omega
 have d:i=m:=by have d:¬(i:O)<(Z (bp m (0:O)):O):=aT d;rw[fE]at d;omega
 subst d;refine kJ<|m8<|nK<|kK<|aO ?_;refine U<|R<|aY (α:=Y×V O×V O) (λr=>⟨[(0,I .z r.2.1),(1,I .z g),(5,.c<|.X 1007000)],[(1007000,.vec 42 .z r.2.2)],8,[]⟩) (λr=>ve f g u v r.2/\Z r.2.1<r.1/\vd g r.1 r.2=X) (λr=>r.1) (Z f+1,f,bp i 0) ⟨I0,dL _,hX⟩ aH ?_;rintro⟨n,F,Q⟩ ⟨H,hn,A⟩;simp only at H hn A;have hFl:Z F<=Z f:=H.fl;obtain⟨n,rfl⟩:∃n',n=n'+1:=⟨n-1,G⟩;rw[vd]at A;refine U<|N J<|y J (λd=>?_)<|λd=>?_
 .have d:Z g<=Z F:=by have d:(Z F:O)>=(Z g:O):=aK d;omega
  rw[b (G:¬Z F<Z g)]at A;obtain⟨n1,o,n3⟩:=H.next hg hv (G:¬Z F<Z g);have K:=H.B;have K2:Z Q=Z f+1-Z g:=H.ql;obtain⟨k,hk⟩:∃k,Z F=Z g+k:=⟨Z F-Z g,G⟩;have x:∀a,aJ 12000 (E F a 0):=λa=>(K a).le (by have:=dT (v+1) (G:Z f-Z F<=100);show u+(Z f-Z F)*(v+1)<=_;omega)
  have q:∀a,aJ 13000 (E (kC F<|kD F g) a 0):=λa=>(n3 a).le (by have:=dT (v+1) (G:Z f-Z F<=100);show u+(Z f-Z F)*(v+1)+v+1<=_;omega)
  have L:∀a,aJ 12200 (E (kD F g) a 0):=λa=>by
   rw[N2 d];split
   .exact((x _).mul<|hv _).le G
   .exact aJ.zero _
  have hTl:=apD d;have D:=adL F (kD F g) 13000 T G G (λa=>(x a).le T)<|λa=>(L a).le T;have hc:E F (ae<|(Z F:O)-1) 0=E F (Z F-1) 0:=by rw[(G:ae ((Z F:O)-1)=Z F-1)]
  have hT:kD F g=bp k 0++g.map (E F (Z F-1) 0*·):=by unfold kD;rw[(G:Z F-Z g=k)]
  have hN:BA g (F,Q)=(aS<|kC F<|kD F g,Q.set k<|E F (Z F-1) 0):=by unfold BA;show(aS<|kC F<|kD F g,Q.set (Z F-Z g)<|E F (Z F-1) 0)=_;rw[(G:Z F-Z g=k)]
  have hcS:=(x<|Z F-1).sm T;have hgS:∀a,Sm (E g a 0):=λa=>(hv a).sm G
  rw[hN]at n1 o A;clear x q L K n3;generalize hW:aS (kC F<|kD F g)=W at*;generalize hTq:kD F g=ji at*;generalize Uh:E F (Z F-1) 0=c at*;refine cZ<|aO<|R<|N J<|N J ?_ (hp:=aF);rw[hc];clear hc Uh hX I0 hi hTq hW;refine w<|xW (T:= .z) c J J J J J ?_ (s J ?_) (hp:=?_)
  .show ae ((Z F:O)-(Z g:O))<Z Q;omega
  .refine w<|fg .z [] J J (s J<|U<|N J ?_);rw[(G:ae ((Z F:O)-(Z g:O))=k),(G:(Z F:O)-(Z g:O)=(k:O))];refine R<|aY (α:=Y) (λt=>⟨[(0,I .z F),(1,I .z g),(5,.c<|.X 1007000),(7,j k),(8,.c<|.P 10006000 0),(9,.c<|.X 12000000),(10,j t)],[(10006000,.box 42 0<|av .z c),(12000000,.vec 42 .z<|bp t 0),(1007000,.vec 42 .z<|Q.set k c)],14,[]⟩) (λt=>t<=k) (λt=>k-t) 0 (be _) (wk (bJ J) ⟨bE J J,bR J,bR J,e⟩) ?_;intro t ht;have C:t<=1000:=G;refine U (N J<|y J (λl=>?_)<|λl=>?_)
   .have l:t<k:=by have l:(t:O)<(k:O):=aK l;omega
    refine cZ<|aO<|U<|R<|bT<|rc J J (iD 0 T T)<|rl .z [(0:O)] J J (ra J J J J J J J J J ?_ ?_<|s J ?_)
    .exact apI t C
    .exact apJ t C
    refine eH<|aO<|rt J<|aG (t+1) l (G:k-(t+1)<k-t)<|Wk.trans (wk (st':=⟨[(0,I .z F),(1,I .z g),(5,.c<|.X 1007000),(7,j k),(8,.c<|.P 10006000 0),(9,.c<|.X 15003000),(10,j ((t+1:Y):O))],[(10006000,.box 42 0<|av .z c),(15003000,.vec 42 .z<|bp (t+1) 0),(1007000,.vec 42 .z<|Q.set k c)],24,[]⟩) (bJ J) ⟨bR J,bE J ?_,bR J,e⟩)<|Wk.trans (fa 12000000 15003000 J J J) aH;rw[List.replicate_succ']
   have l:t=k:=by have l:¬(t:O)<(k:O):=aT l;omega
   subst l;refine kJ<|m8<|nK<|kK<|aO<|U<|N J ?_;have M:(g.map (c*·)).length=Z g:=cR _;refine R<|aY (α:=Y) (λa=>⟨[(0,I .z F),(1,I .z g),(5,.c<|.X 1007000),(8,.c<|.P 10006000 0),(9,.c<|.X 12000000),(11,j a)],[(10006000,.box 42 0<|av .z c),(12000000,.vec 42 .z<|bp t 0++(g.map (c*·)).take a),(1007000,.vec 42 .z<|Q.set t c)],20,[]⟩) (λa=>a<=Z g) (λa=>Z g-a) 0 (be _) (wk (bJ J) ⟨bR J,bE J ?_,bR J,e⟩) ?_
   .rw[GK,gO]
   intro a hj;have S:(bp t (0:O)++(g.map (c*·)).take a).length<=200:=by rw[hP,fE,fp,M];omega
   refine U<|N J<|y J (λp=>?_)<|λp=>?_
   .have p:a<Z g:=by have p:(a:O)<(Z g:O):=aK p;omega
    have ej:ae ((a:O))=a:=bW a;have qA:=kg c (E g (ae<|(a:O)) 0) hcS<|hgS _;have hV1:bp t (0:O)++(g.map (c*·)).take (a+1)=bp t (0:O)++(g.map (c*·)).take a++[c*E g (ae<|(a:O)) 0]:=by rw[qM (g.map (c*·)) a G,getD_map (f:=(c*·))<|gn c,ej,kF]
    clear M C;generalize bp t (0:O)++(g.map (c*·)).take a=Bz at*;refine cZ<|aO<|U<|R<|bT<|rc J J qA (rl .z [_] J J (ra J J J J J J J J J ?_ ?_<|s J ?_)) (hp:=aF)
    .exact ad6 Bz S
    .exact ad7 Bz S
    refine eH<|aO<|rt J<|aG (a+1) p (G:Z g-(a+1)<Z g-a)<|Wk.trans (wk (st':=⟨[(0,I .z F),(1,I .z g),(5,.c<|.X 1007000),(8,.c<|.P 10006000 0),(9,.c<|.X 21008000),(11,j ((a+1:Y):O))],[(10006000,.box 42 0<|av .z c),(21008000,.vec 42 .z<|bp t 0++(g.map (c*·)).take (a+1)),(1007000,.vec 42 .z<|Q.set t c)],32,[]⟩) (bJ J) ⟨bR J,bE J ?_,bR J,e⟩)<|Wk.trans (fa 12000000 21008000 J J J) aH;rw[hV1]
   .have p:a=Z g:=by have p:¬(a:O)<(Z g:O):=aT p;omega
    subst p;rw[iK G,<-hT];refine kJ<|m8<|nK<|kK<|aO<|c6 12000000 J J J<|bT<|rc J J D<|s J<|eH<|aG (n,W,Q.set t c) ⟨n1,?_,A⟩ (dL n) aH;show Z W<n;have o:Z W<Z F:=o;omega
  .simp only[Pr.an,Pr.h,num,fR,true_and,and_true];omega
 .have d:Z F<Z g:=by have d:¬(Z F:O)>=(Z g:O):=aT d;omega
  rw[aq d]at A;subst A;refine kJ<|m8<|nK<|kK<|aO<|U<|N J<|y J (λl=>?_)<|λl=>?_
  .have l:F≠[]:=λcz=>by have l:(Z F:O)>0:=aK l;rw[cz]at l;exact absurd l T
   rw[b l];exact N J<|bI<|cA<|gZ cq J<|bf.nil .z
  .have l:F=[]:=fB (by have l:¬(Z F:O)>0:=aT l;omega);rw[aq l];exact cZ<|aO<|c6 1007000 J J J<|N J<|bI<|gZ cq J<|bf.refl _
end
open Fx
def apP{m}{a}{l}{S}(g:S∈ly (Z l))(i:Rx.zx (gS m l S.testBit)∣Rx.zx a)(k:∀c∈ly (Z l),bU c.testBit (Z l)<bU S.testBit (Z l)\/(bU c.testBit (Z l)=bU S.testBit (Z l)/\c<S)->¬Rx.zx (gS m l c.testBit)∣Rx.zx a):sa m a l=some S:=by
 classical
 let ⟨us,ws,e⟩:=OB g;unfold sa;refine List.find?_eq_some_iff_append.2 ⟨rV i,us,ws,e,λc d=>?_⟩;have f:=anU<|Z l;rw[e]at f;have n:=(wZ.1 f).2.2 c d S ay;rw[Fu,decide_eq_false_iff_not];exact k c (by rw[e];simp[d]) n
def apQ{m}{a}{l}(d:∀c∈ly (Z l),¬Rx.zx (gS m l c.testBit)∣Rx.zx a):sa m a l=none:=by
 classical
 unfold sa;refine List.find?_eq_none.2 λc f=>?_
 rw[decide_eq_true_iff];exact d c f
def jE(m:O)(l:V (V O))(a:Y->Bool)(i:Y):V O:=(jO m [1] (bC a 0<|h i l)).map (dq · m)
def sj(l:V (V O))(a:Y->Bool)(i:Y):V (V O):=bC (λi=> !a i) 0<|h i l
def Ui{l}{i}(d:i<Z l)(a:Y->Bool):bC a 0 (h (i+1) l)=bC a 0 (h i l)++(if a i then[l.getD i []]else[]):=by
 have c:h (i+1) l=h i l++[l.getD i []]:=by rw[rv,aV,cH d];rfl
 rw[c,aar];congr 1;rw[bC,bC,(bX:0+(h i l).length=i)]
def apR{l}{i}(c:i<Z l)(a:Y->Bool):sj l a (i+1)=if a i=af then sj l a i else sj l a i++[l.getD i []]:=by unfold sj;rw[Ui c];cases a i<;>simp
def ad8{m}(c:1<m){l}(g:∀f∈l,aL f)(a:Y->Bool) i:aL (jO m [1] (bC a 0<|h i l))/\aL (jE m l a i)/\Z (jE m l a i)=1+dn (bC a 0<|h i l):=by let ⟨d,h2⟩:=yJ c A9 (λf k=>g f (BM<|wY k):∀f∈bC a 0 (h i l),aL f);refine⟨d,A7 c d,?_⟩;unfold jE;rw[cR,h2];rfl
def apS{m}(g:1<m){l}(d:∀f∈l,aL f){i}(h:i<Z l)(a:Y->Bool):(a i=ah->jE m l a (i+1)=jE m l a i)/\(a i=af->(kQ (jE m l a i)<|l.getD i []).map (dq · m)=jE m l a (i+1)):=by
 constructor
 .intro e;unfold jE;rw[Ui h,e];simp
 .intro e;have c:l.getD i []∈l:=R1;have n:=d _ c;let ⟨t1,t2,t3⟩:=ad8 g d a i;have p:jE m l a (i+1)=(r8 (jO m [1] (bC a 0<|List.take i l)) (l.getD i []) m).map (dq · m):=by unfold jE;rw[Ui h,e,aq J,aas];rfl
  rw[p];refine alC G ?_ λj=>?_
  .rw[HY,Sh];have:Z (jE m l a i)=Z (jO m [1] (bC a 0<|List.take i l)):=by unfold jE;rw[cR]
   rw[this]
  .have r:Cg m (ps<|kQ (jE m l a i)<|l.getD i []) (ps<|r8 (jO m [1] (bC a 0<|List.take i l)) (l.getD i []) m):=by
    rw[aak _ _ t2.1 n.1];refine(Cg.AB ?_ _).trans (Sg _ _ _).symm;refine Cg.of λk=>?_
    unfold jE;rw[cw,cw,pS _ G,yI G]
   exact r.at j
def apT(a i:Y)(g:i<=60):((((a:O).fdiv<|2^min (ae<|(i:O)) IntKind.i64.bits).tmod 2)==1)=m6 a i:=by
 have c:min (ae<|(i:O)) IntKind.i64.bits=i:=by show min _ 64=_;omega
 have d:((2:O)^i)=((2^i:Y):O):=by rw[s7];rfl
 have f:(a:O).fdiv ((2^i:Y):O)=((a/2^i:Y):O):=by rw[At _ (pO _),wm]
 rw[c,d,f,show(2:O)=((2:Y):O)from J,lN,Nat.testBit_eq_decide_div_mod_eq];generalize a/2^i%2=z;by_cases h:z=1
 .rw[h];rfl
 .rw[ox h];exact beq_eq_false_iff_ne.2<|λe=>h G
def ad9(a:Y->Bool):∀(l:V (V O))(i:Y),Z (bC a i l)<=Z l
 |[],_=>a7 _
 |f::l,i=>by have:=ad9 a l<|i+1;rw[bC];split<;>simp<;>omega
def apU(a:Y->Bool) l i:dn (bC a 0<|h i l)<=dn l:=by
 have c:=MQ a (h i l) 0;have d:dn (h i l)+dn (az i l)=dn l:=by rw[<-NI,ry]
 omega
def apV{n a}(c:a<2^n)(d:1<=bU a.testBit n)(f:2*bU a.testBit n<=n):a∈ly n:=yL.2 ⟨c,d,G⟩
def Uj(m:O):∀(k:Y)(a:V O)(l:V (V O)),Z (qY m k a l)<=k+1
 |0,a,l=>a7 _
 |k+1,a,l=>by
  rw[qY];cases sa m a l with
  |none=>simp
  |some S=>have:=Uj m k (lY a<|gS m l S.testBit)<|bC (λi=> !S.testBit i) 0 l;simp;omega
def ad'{p:Y}{m:O}{w:Y}(w1:1<=w)(w9:w<=100)(L:aJ w m):∀(k:Y)(a:V O)(l:V (V O)),k<=100->Z l<=k->l≠[]->Z l<=8->Z a<=9->gy p m a l->(∀f∈l,∀i,aJ w (E f i 0))->al z 178 [I .z a,I (.sl .z) l,aZ m] (I (.sl .z)<|qY m k a l)
 |0,a,l,_,B,x,_,_,_,_=>absurd (fB G) x
 |k+1,a,l,atn,hk,x,l8,a9,C,hlB=>by
  let ⟨m1,KG⟩:=C.m1;have IH:=λa l=>ad' (p:=p) w1 w9 L k a l
  rw[qY];refine aR Tryz.func178 ?_;refine N J<|U<|N J ?_;refine R<|aY (α:=Y) (λd=>⟨[(0,I .z a),(1,I (.sl .z) l),(5,.c<|.P 0 0),(7,j d)],[(0,.box 42 0<|av .z m)],2,[]⟩) (λd=>1<=d/\d<=9/\∀g∈ly (Z l),bU g.testBit (Z l)<d->¬Rx.zx (gS m l g.testBit)∣Rx.zx a) (λd=>20-d) 1 ⟨a7 _,T,λg v B=>absurd (yL.1 v).2.1 G⟩ (wk (bJ J) ⟨bE J J,e⟩) ?_;rintro d ⟨s1,s9,hs⟩;refine U<|N J<|y J (λB=>?_)<|λB=>?_
  .have B:2*d<=Z l:=by have B:2*(d:O)<=(Z l:O):=aK B;omega
   refine aA<|U<|R<|N J ?_;refine R<|aY (α:=Y) (λq=>⟨[(0,I .z a),(1,I (.sl .z) l),(5,.c<|.P 0 0),(7,j d),(8,j q)],[(0,.box 42 0<|av .z m)],5,[]⟩) (λq=>1<=q/\q<=2^Z l/\∀g∈ly (Z l),(bU g.testBit (Z l)<d\/(bU g.testBit (Z l)=d/\g<q))->¬Rx.zx (gS m l g.testBit)∣Rx.zx a) (λq=>2^Z l-q) 1 ⟨a7 _,Nat.one_le_two_pow,λg v u=>hs g v ?_⟩ aH ?_
   .rcases u with u|⟨u,A⟩
    .exact u
    .have F:g=0:=by omega
     subst F;rw[ad4]at u;omega
   rintro q ⟨q1,q2,hq⟩;have hp8:2^Z l<=2^8:=fT T l8;have H:IntKind.i64.wrap (1*2^min (ae<|(Z l:O)) IntKind.i64.bits)=((2^Z l:Y):O):=by have:∀n:Fin 9,IntKind.i64.wrap (1*2^min (ae<|((n:Y):O)) IntKind.i64.bits)=((2^(n:Y):Y):O):=T;exact this ⟨Z l,G⟩
   refine U<|N J<|y J (λu=>?_)<|λu=>?_
   .have u:q<2^Z l:=by have u:(q:O)<IntKind.i64.wrap (1*2^min (ae<|(Z l:O)) IntKind.i64.bits):=aK u;rw[H]at u;omega
    clear H;have hon:=apC q (Z l) u G;refine aA<|U<|R<|U<|bD J J hon J<|y J (λA=>?_)<|λA=>cZ<|aO ?_
    .have A:bU q.testBit (Z l)≠d:=λF=>by have A:((bU q.testBit (Z l):Y):O)≠(d:O):=bne_iff_ne.1 A;omega
     refine kJ<|m8<|kK<|aO<|rt J<|aG (q+1) ⟨G,G,λg v r=>hq g v ?_⟩ (G:2^Z l-(q+1)<2^Z l-q) aH;rcases r with r|⟨r,t⟩
     .exact .inl r
     .by_cases F:g=q
      .exact absurd (F▸r) A
      .exact .inr ⟨r,G⟩
    have A:bU q.testBit (Z l)=d:=by
     have A:¬((bU q.testBit (Z l):Y):O)≠(d:O):=λF=>by have A:(((bU q.testBit (Z l):Y):O) !=(d:O))=ah:=A;rw[bne_iff_ne.2 F]at A;cases A
     omega
    have hg0:jE m l q.testBit 0=[1]:=by show([1]:V O).map (dq · m)=[1];rw[hJ,aao m1,IL]
    refine rb<|rc J J (iD 1 T T)<|rl .z [(1:O)] J J (s J<|rb<|fg (.sl .z) [] J J (s J<|U<|N J ?_));refine R<|aY (α:=Y) (λi=>⟨[(0,I .z a),(1,I (.sl .z) l),(5,.c<|.P 0 0),(7,j d),(8,j q),(9,I .z<|jE m l q.testBit i),(10,.c<|.X 8000000),(11,j i)],[(0,.box 42 0<|av .z m),(8000000,.vec 161 (.sl .z)<|sj l q.testBit i)],10,[]⟩) (λi=>i<=Z l) (λi=>Z l-i) 0 (be _) (by rw[hg0];exact aH) ?_;intro i hi;refine U<|N J<|y J (λr=>?_)<|λr=>?_
    .have r:i<Z l:=by have r:(i:O)<(Z l:O):=aK r;omega
     have hbq:=apT q i G;have ei:ae ((i:O))=i:=bW i;have vO:(E l (ae<|(i:O))<|ET.aD<|.sl .z)=l.getD i []:=a8 (λfK=>l.getD fK []) ei;have K:l.getD i []∈l:=by rw[aV,cH r];exact ru r
     let ⟨t1,t2,t3⟩:=ad8 m1 C.lm q.testBit i;let ⟨u1,u2⟩:=apS m1 C.lm r q.testBit;have M:=apR r q.testBit;have hxm:=C.lm _ K;have hxB:=hlB _ K;have Q:∀S,aJ w (E (jE m l q.testBit i) S 0):=λS=>by unfold jE;rw[pS _ G];exact Rj G L
     have Ey:Z (jE m l q.testBit i)<=9:=by have:=apU q.testBit l i;have:=C.len;omega
     have Bq:Z (l.getD i [])<=9:=by have:=adZ K;have:=C.len;omega
     have LG:Z (sj l q.testBit i)<=8:=by have:=ad9 (λi=> !q.testBit i) (h i l) 0;have W:(h i l).length<=Z l:=bX;show Z (bC _ 0<|h i l)<=8;omega
     have D:=Yx (jE m l q.testBit i) (l.getD i []) w w G G G Q hxB;rw[(t2.aam hxm).trim]at D;have x:=Rk (kQ (jE m l q.testBit i)<|l.getD i []) m (w+w+1) G (by rw[HY];omega) G (aal _ _ w w Q hxB G G)<|L.le G;rw[(A7 m1<|t2.aam hxm).trim]at x;rw[<-vO]at D x M u2;refine aA<|U<|R<|N J<|y J (λt=>?_)<|λt=>?_
     .have t:m6 q i=af:=hbq▸t;rw[u2 t]at x;refine bT<|rc J J D (rc J J x<|s J<|aX<|rt J<|aG (i+1) r uN<|wk (bJ J) ⟨bR J,bE J ?_,e⟩) (hp:=aF);rw[M,aq t]
     .have t:m6 q i=ah:=hbq▸t;rw[t]at M;refine bT (rl (.sl .z) [_] J J (ra J J J J J J J J J ?_ ?_<|s J ?_) (hp:=aF))
      .show(Z (sj l q.testBit i)+1+(Z (sj l q.testBit i)+1)/4+192)*24<=_;omega
      .show(Z (sj l q.testBit i)+1)*1<=_;omega
      refine aX<|rt J<|aG (i+1) r uN<|Wk.trans (wk (st':=⟨[(0,I .z a),(1,I (.sl .z) l),(5,.c<|.P 0 0),(7,j d),(8,j q),(9,I .z<|jE m l q.testBit<|i+1),(10,.c<|.X 12006000),(11,j ((i+1:Y):O))],[(0,.box 42 0<|av .z m),(12006000,.vec 161 (.sl .z)<|sj l q.testBit<|i+1)],24,[]⟩) ⟨sR J,sR J,sR J,sR J,sR J,sE J ?_,sR J,sR J,e⟩ ⟨bR J,bE J ?_,e⟩)<|Wk.trans (fa 8000000 12006000 J J J) aH
      .rw[u1 t]
      .rw[M];rfl
    .have r:i=Z l:=by have r:¬(i:O)<(Z l:O):=aT r;omega
     subst r;have hgE:jE m l q.testBit (Z l)=gS m l q.testBit:=by unfold jE gS;rw[fv]
     have hrE:sj l q.testBit (Z l)=bC (λi=> !q.testBit i) 0 l:=by unfold sj;rw[fv]
     rw[hgE,hrE];let ⟨gm,gl⟩:=C.A' q.testBit;have Ey:Z (gS m l q.testBit)<=9:=by have W:=MQ q.testBit l 0;have:=C.len;omega
     have Q:∀S,aJ w (E (gS m l q.testBit) S 0):=λS=>by unfold gS;rw[pS _ G];exact Rj G L
     have haB:∀S,aJ w (E a S 0):=λS=>by have:=C.bd a C.am (Rx.dvd_refl _) S;unfold aJ at*;omega
     have hqu:=apK C.am gm haB Q G G G G;have hS:q∈ly (Z l):=apV u G G;refine kJ<|m8<|nK<|kK<|aO<|c6 8000000 J J J<|rb<|rc J J hqu<|s J<|N J<|y J (λt=>?_)<|λt=>?_
     .have o:Rx.zx (gS m l q.testBit)∣Rx.zx a:=eQ λhn=>by
       have t:(Z (tN a<|gS m l q.testBit):O)>0:=aK t;have F:tN a (gS m l q.testBit)=[]:=by unfold tN;rw[b hn]
       rw[F]at t;exact absurd t T
      have hqE:tN a (gS m l q.testBit)=lY a (gS m l q.testBit):=by unfold tN;rw[aq o]
      have ap3:=apP (a:=a) hS o (λg v B=>hq g v<|by rw[A]at B;exact B);let ⟨c1,c2,c3,c4⟩:=C.rest hS o;have c5:Z (lY a<|gS m l q.testBit)<=9:=by have W:=MQ q.testBit l 0;have h7:=c2.len;have:=C.len;omega
      have ih:=IH (lY a<|gS m l q.testBit) (bC (λi=> !q.testBit i) 0 l) G G c3 G c5 c2<|λf hf=>hlB f<|wY hf;rw[ap3,hqE];have rA:Z (qY m k (lY a<|gS m l q.testBit)<|bC (λi=> !q.testBit i) 0 l)<=1000:=by have:=Uj m k (lY a<|gS m l q.testBit)<|bC (λi=> !q.testBit i) 0 l;omega
      refine rb<|fg (.sl .z) [_] J J (rc J J ih<|ra J J J J J J J J J ?_ ?_<|s J<|c6 13006000 J J J<|bI ?_)
      .show(1+Z (qY m k (lY a<|gS m l q.testBit)<|bC (λi=> !q.testBit i) 0 l)+(1+Z (qY m k (lY a<|gS m l q.testBit)<|bC (λi=> !q.testBit i) 0 l))/4+192)*24<=_;omega
      .show(1+Z (qY m k (lY a<|gS m l q.testBit)<|bC (λi=> !q.testBit i) 0 l))*1<=_;omega
      repeat(first|refine cA ?_|refine jJ ?_|refine kd ?_)
      exact dR J J
     .have o:¬Rx.zx (gS m l q.testBit)∣Rx.zx a:=λo=>by
       have t:¬(Z (tN a<|gS m l q.testBit):O)>0:=aT t;have F:tN a (gS m l q.testBit)=lY a (gS m l q.testBit):=by unfold tN;rw[aq o]
       let ⟨_,c2,_⟩:=C.rest hS o;have:=cQ.2 c2.am.1;rw[F]at t;omega
      refine cZ<|aX<|rt J<|aG (q+1) ⟨G,G,λg v W=>?_⟩ (G:2^Z l-(q+1)<2^Z l-q) aH;rcases W with W|⟨W,h7⟩
      .exact hq g v<|.inl W
      .by_cases F:g=q
       .rw[F];exact o
       .exact hq g v<|.inr ⟨W,G⟩
   .have u:2^Z l<=q:=by have u:¬(q:O)<IntKind.i64.wrap (1*2^min (ae<|(Z l:O)) IntKind.i64.bits):=aT u;rw[H]at u;omega
    refine a6<|aX<|rt J<|aG (d+1) ⟨G,G,λg v W=>hq g v ?_⟩ (G:20-(d+1)<20-d) aH;have:=(yL.1 v).1;omega
  .have B:Z l<2*d:=by have B:¬2*(d:O)<=(Z l:O):=aT B;omega
   have NF:=apQ (m:=m) (a:=a) (l:=l) (λg v=>hs g v<|by have:=(yL.1 v).2.2;omega);rw[NF];exact a6<|aO<|rb<|rl (.sl .z) [a] J J (s J<|cx J)
end Go.El
namespace Go.El
open Go Go.Proofs Go.RowKit Rx
def ap4{r}{a c:O}(f:(a:D)*r=(c:D)):(r.den:O)∣a:=by
 have g:a*r.num=c*(r.den:O):=by
  have d:(a:D)*(((r.den:Y):D)*r)=(c:D)*((r.den:Y):D):=by rw[<-f];grind
  rw[Mq]at d;have i:((a*r.num:O):D)=((c*(r.den:O):O):D):=by rw[fh,fh];exact d
  exact wT.1 i
 have k:r.den∣aC a*aC r.num:=⟨aC c,by rw[<-pD,g,pD,oA,gN]⟩;have l:=Nat.Coprime.dvd_of_dvd_mul_right (Nat.Coprime.symm r.reduced) k;exact R9.2 l
def oR(a:V D)(k:Y):O:=(E a k 0).num*((dA a:Y):O)/((E a k 0).den:O)
def oS(a:V D):V O:=(cc<|Z a).map<|oR a
def rj(a:V D):Y->Y
 |0=>0
 |i+1=>nb (rj a i)<|aC<|oR a i
def Uk(a:V D):∀i c,c<i->rj a i∣aC (oR a c)
 |0,c,d=>by omega
 |i+1,c,d=>by
  rw[rj];by_cases f:c=i
  .rw[f];exact QX _ _
  .exact DX (Nat.gcd_dvd_left _ _)<|Uk a i c G
section
variable{a:V D}
def aee{k}(c:k<Z a):((oR a k:O):D)=((dA a:Y):D)*E a k 0:=by have d:(E a k 0).den∣dA a:=ED a _ k c;have:=NP (E a k 0) (D:=((dA a:Y):O))<|wB.2 d;exact this
def ap5{k}(c:k<Z a):(E a k 0).num*((dA a:Y):O)=((E a k 0).den:O)*oR a k:=by
 have d:(E a k 0).den∣dA a:=ED a _ k c;let ⟨e,he⟩:=d;unfold oR;have f:((E a k 0).den:O)≠0:=by have:=(E a k 0).den_pos;omega
 rw[he,eU,(fc:(E a k 0).num*(((E a k 0).den:O)*(e:O))=((E a k 0).den:O)*((E a k 0).num*(e:O))),Ue _ f]
def N3(c:iG a):oR a (Z a-1)=((dA a:Y):O):=by unfold oR;rw[c.one];show(1:O)*_/1=_;rw[jS,sZ]
def ap6(m:iG a):rj a (Z a)=1:=by
 have Q:=m.l2;have n:0<dA a:=EE a _;obtain⟨e,g⟩:rj a (Z a)∣dA a:=by have:=Uk a (Z a) (Z a-1) G;rwa[N3 m,oA]at this
 generalize A:rj a (Z a)=c at*;have B:0<c:=by
  rcases pq c with d|d
  .rw[d,rM]at g;omega
  .exact d
 have f:∀k,(E a k 0).den∣e:=λk=>by
  by_cases p:k<Z a
  .have r:=Uk a (Z a) k p;rw[A]at r;let ⟨z,C⟩:=R9.2 r;have t:=aee p;rw[g,C]at t;have F:((e:O):D)*E a k 0=(z:D):=by
    have i:((c:Y):D)≠0:=wO G;have H:((c:Y):D)*(z:D)=((c:Y):D)*(((e:O):D)*E a k 0):=by
     have K:(((c:O)*z:O):D)=((c:Y):D)*(z:D):=fh _ _;have L:((c*e:Y):D)=((c:Y):D)*((e:O):D):=by rw[<-qV,eU,fh];rfl
     rw[<-K,t,L,oD]
    have u:=a8 (λx=>((c:Y):D)⁻¹ *x) H;simp only[<-oD,nT _ i,qP]at u;exact u.symm
   exact wB.1<|ap4 F
  .rw[iE a G];exact Nat.one_dvd _
 have v:dA a∣e:=TM a f _;rw[g]at v;let ⟨y,M⟩:=v;have l:0<e:=by
  rcases pq e with d|d
  .rw[d,Nat.mul_zero]at g;omega
  .exact d
 have:1*e=c*y*e:=by
  rw[hO];conv=>lhs;rw[M]
  ac_rfl
 have P:=Nat.eq_of_mul_eq_mul_right l this;exact Nat.dvd_one.1 ⟨y,P⟩
def zd a:Z (oS a)=Z a:=by simp[oS]
def IM a{k}(c:k<Z a):E (oS a) k 0=oR a k:=by unfold oS;rw[aV,iT,kS c];rfl
def ap7(d:iG a):N1 (oS a)=dB a:=by
 have i:=d.l2;unfold N1 dB;rw[zd];refine List.map_congr_left λk c=>?_
 have c:=oW.1 c;unfold ri;rw[zd];split
 .rename_i e;rw[e,d.one,mr,ow];rfl
 .rename_i e;rw[IM a c,IM a G,N3 d,(G:Z a-1-k=(Z a-2-k)+1),eZ];have f:((E a k 0).den:O)≠0:=by have:=(E a k 0).den_pos;omega
  have g:=ap5 (a:=a) c;rw[show(E a k 0).num*(((dA a:Y):O)^(Z a-2-k)*((dA a:Y):O))=((E a k 0).den:O)*(oR a k*((dA a:Y):O)^(Z a-2-k))by rw[<-iy ((E a k 0).den:O),<-g];ac_rfl,Ue _ f]
def ap8{k}(c:k<Z a):(E a k 0*(((dA a:Y):O):D)).num=oR a k:=by have d:=aee c;rw[DM,show((((dA a:Y):O):O):D)=((dA a:Y):D)from J,<-d];rfl
def aef(c:∀k,k<Z a->aJ 201 (oR a k)):∀i,i<=Z a->aJ 201 ((rj a i:Y):O)
 |0,_=>aJ.zero _
 |i+1,g=>by
  have d:=aef c i G;have f:=c i G;unfold aJ at*;rw[oA]at*;rw[rj];rcases pq (rj a i)with e|e
  .rw[e,Nat.gcd_zero_left];exact f
  .exact uv (Nat.gcd_le_left _ e) d
def aeg(d:iG a)(c:∀i,QS 20 (E a i 0)){k:Y}(_:k<Z a):aJ 201 (oR a k):=by have f:=(c k).n.mul ((TQ a c<|Z a).le<|show 20*Z a+1<=181 by have:=d.l9;omega);have g:=Ug ((E a k 0).num*((g8 a (Z a):Y):O)) ((E a k 0).den:O);have l:oR a k=(E a k 0).num*((g8 a (Z a):Y):O)/((E a k 0).den:O):=rfl;unfold aJ at*;rw[l];exact uv g f
def ap9(x:iG a)(v:∀i,QS 20 (E a i 0)):al z 169 [I .q a] (I .z<|oS a):=by
 have l2:=x.l2;have l9:=x.l9;have m:=λi(l:i<=9)=>(TQ a v i).le (G:20*i+1<=181)
 have A:=λi(l:i<=9)=>(m i l).sm T
 have B:QS 181 (((dA a:Y):O):D):=⟨m _ l9,(aJ.one (a:=1) T).le T⟩;have n:=λk C=>aeg x v (k:=k) C
 have F:=λk C=>(n k C).sm (by decide:201<=1099511627776)
 have W:=ap6 x;have b:=λi l=>(aef n i l).sm (by decide:201<=1099511627776)
 have o:=zd a;have p:=λk(C:k<Z a)=>IM a C
 have H:=N3 x;have D1:0<dA a:=EE a _;have K:=λk=>(v k).d.sm (by decide:20<=1099511627776)
 have r:∀i,((g8 a i:Y):O)*(((E a i 0).den:O)/((nb (g8 a i) (E a i 0).den:Y):O))=((g8 a (i+1):Y):O):=λi=>by rw[g8,eU,wm]
 have V:∀i,i<=9->Sm (((E a i 0).den:O)/((nb (g8 a i) (E a i 0).den:Y):O)):=λi l=>by have f:=(v i).d;have h2:=Ug ((E a i 0).den:O) ((nb (g8 a i) (E a i 0).den:Y):O);exact(show aJ 20 _ by unfold aJ at*;omega:aJ 20 (((E a i 0).den:O)/((nb (g8 a i) (E a i 0).den:Y):O))).sm T
 have Uf:=λi=>LM (k:=181) (E a i 0) (((dA a:Y):O):D) ((v i).le T) B T
 clear m n B;refine aR Tryz.func169 ?_;refine N J<|bD J J (iD 1 T T) J<|U<|N J ?_;refine R<|aY (α:=Y) (λi=>⟨[(0,I .q a),(3,.c<|.P 1001000 0),(4,j i)],[(1001000,.box 42 0<|av .z ((g8 a i:Y):O))],3,[]⟩) (λi=>i<=Z a) (λi=>Z a-i) 0 (be _) (wk (bJ J) ⟨bE J J,e⟩) ?_;intro i l;refine U<|N J<|y J (λf=>?_)<|λf=>?_
 .have f:i<Z a:=by have f:(i:O)<(Z a:O):=aK f;omega
  have ei:ae ((i:O))=i:=bW i;have hg:=K4 ((g8 a i:Y):O) ((E a i 0).den:O) (A i G)<|K i;have hgp:0<nb (g8 a i) (E a i 0).den:=Nat.gcd_pos_of_pos_right _ (E a i 0).den_pos;have atp:nb (g8 a i) (E a i 0).den<=(E a i 0).den:=Nat.gcd_le_right _ (E a i 0).den_pos;have t:=Dq ((E a i 0).den:O) ((nb (g8 a i) (E a i 0).den:Y):O) G (K i)<|(show aJ 20 ((nb (g8 a i) (E a i 0).den:Y):O)by have:=(v i).d;unfold aJ at*;omega).sm T;have M:=kg ((g8 a i:Y):O) (((E a i 0).den:O)/((nb (g8 a i) (E a i 0).den:Y):O)) (A i G)<|V i G;rw[r]at M;refine aA<|U<|R ?_;refine w<|rc J J hg (s J<|w<|rc J J t (s J ?_) (hp:=aF)) (hp:=aF);exact bT<|rc J J M<|s J<|aX<|rt J (hp:=aF)<|aG (i+1) f oq<|wk (bJ J) ⟨bE J J,e⟩
 have f:i=Z a:=by have f:¬(i:O)<(Z a:O):=aT f;omega
 subst f;have di:g8 a (Z a)=dA a:=rfl;refine a6<|aO ?_;rw[di];refine w<|fg .z [] J J (s J<|bD J J (iD 0 T T) J<|U<|N J ?_);generalize hL:oS a=L at*;refine R<|aY (α:=Y) (λi=>⟨[(0,I .q a),(3,.c<|.P 1001000 0),(9,.c<|.X 4000000),(10,.c<|.P 5001000 0),(11,j i)],[(1001000,.box 42 0<|av .z ((dA a:Y):O)),(4000000,.vec 42 .z<|h i L),(5001000,.box 42 0<|av .z ((rj a i:Y):O))],8,[]⟩) (λi=>i<=Z a) (λi=>Z a-i) 0 (be _) (wk (bJ J) ⟨bR J,bR J,bE J J,e⟩) ?_;intro i l;have hl:(h i L).length=i:=bX;refine U<|N J<|y J (λf=>?_)<|λf=>?_
 .have f:i<Z a:=by have f:(i:O)<(Z a:O):=aK f;omega
  have hm:=Uf i;have g:=ap8 (a:=a) f;have Q:=K4 ((rj a i:Y):O) (oR a i) (b i G)<|F i f;refine aA<|U<|R ?_;refine w<|rc J J (iD 1 T T) (rc J J hm<|s J ?_) (hp:=aF);rw[<-g]at Q;refine w<|rl .z [(E a i 0*(((dA a:Y):O):D)).num] J J (ra J J J J J J J J J ?_ ?_<|s J ?_)
  .exact ad6 (h i L) G
  .exact ad7 (h i L) G
  refine bT<|rc J J Q<|s J<|aX<|rt J<|aG (i+1) f oq<|Wk.trans (wk (st':=⟨[(0,I .q a),(3,.c<|.P 1001000 0),(9,.c<|.X 10004000),(10,.c<|.P 5001000 0),(11,j ((i+1:Y):O))],[(1001000,.box 42 0<|av .z ((dA a:Y):O)),(10004000,.vec 42 .z<|h (i+1) L),(5001000,.box 42 0<|av .z ((rj a (i+1):Y):O))],16,[]⟩) (bJ J) ⟨bR J,bE J ?_,bE J ?_,e⟩)<|Wk.trans (fa 4000000 10004000 J J J) aH
  .refine a8 (aN.vec 42 .z) ?_;rw[qM L i G,p i f,g]
  .rw[rj,<-g];rfl
 have f:i=Z a:=by have f:¬(i:O)<(Z a:O):=aT f;omega
 subst f;rw[iK G,W];refine a6<|aO<|U ?_;have u:E L (ae<|(Z L:O)-1) 0=((dA a:Y):O):=by rw[o,(G:ae ((Z a:O)-1)=Z a-1),p _ G,H]
 have hsg:=Ao<|E L (ae<|(Z L:O)-1) 0;have S:¬dY (E L (ae<|(Z L:O)-1) 0)<0:=by rw[u,LI];omega
 refine w<|rg 73 J J (λ_=>?_)<|λf=>?_;rotate_left
 .exfalso;have f:¬(Z a:O)>0:=aT f;omega
 refine gK J J J J J hsg (s J<|y J (λf=>?_)<|λ_=>aA ?_) (hp:=aF)
 .exfalso;exact S<|aK f
 refine U<|N J<|R<|aY (α:=Y) (λi=>⟨[(9,.c<|.X 4000000),(10,.c<|.P 5001000 0),(13,j i)],[(4000000,.vec 42 .z L),(5001000,.box 42 0<|av .z ((1:Y):O))],16,[]⟩) (λi=>i<=Z L) (λi=>Z L-i) 0 (be _) aH ?_;intro i l;refine U<|N J<|y J (λf=>?_)<|λf=>?_
 .have f:i<Z L:=by have f:(i:O)<(Z L:O):=aK f;omega
  have ei:ae ((i:O))=i:=bW i;have t:=Dq (E L (ae<|(i:O)) 0) ((1:Y):O) T (by rw[ei,p i G];exact F i G)<|(aJ.one (a:=((1:Y):O)) T).sm T;refine aA<|U<|R ?_;refine w<|rc J J t (s J ?_) (hp:=aF);refine bT<|xW (T:= .z) (E L (ae<|(i:O)) 0/((1:Y):O)) J J J J J ?_ (s J<|aX<|rt J (hp:=aF)<|aG (i+1) f (G:Z L-(i+1)<Z L-i)<|wk (bJ J) ⟨bE J ?_,bR J,e⟩) (hp:=aF)
  .show ae ((i:O))<_;omega
  .refine a8 (aN.vec 42 .z)<|ME (by rw[rH]) λjg hj=>?_;rw[sY _ _ _ _ G,ei];split
   .rename_i cz;rw[cz];exact sZ _
   .rfl
 .have f:i=Z L:=by have f:¬(i:O)<(Z L:O):=aT f;omega
  subst f;exact a6<|aO<|c6 4000000 J J J<|N J<|cx J
end
end Go.El
namespace Go.El
open Go Go.Proofs Go.RowKit Fx
def tdB(n:Y):Bool:=[2,3,5,7,11,13,17,19,23,29,31,37,41,43,47].all λk=>Nat.ble n k|| !(Nat.beq (n%k) 0)
def EJ:V Y:=((List.range' 3 2300).filter tdB)
def N4{p}(a:p∈EJ):3<=p/\p<2304:=by have c:=(n8.1 a).1;rw[aqa]at c;omega
def aei{p}(c:p∈EJ):dw p:=by
 let ⟨A,h2⟩:=N4 c;have m:tdB p=af:=(n8.1 c).2;have f:∀k∈[2,3,5,7,11,13,17,19,23,29,31,37,41,43,47],p<=k\/p%k≠0:=λk f=>by
  have:=mq.1 m k f;rcases xJ _ _▸this with e|e
  .exact .inl<|dc e
  .right;intro n;rw[n]at e;exact absurd e T
 refine⟨G,λd r B t=>?_⟩;have u:d<48:=eQ λc=>by have:48*48<=d*d:=ls G G;omega
 have v:d<p:=by have:2*d<=d*d:=dT d r;omega
 obtain⟨q,g,a⟩:∃q∈[2,3,5,7,11,13,17,19,23,29,31,37,41,43,47],q∣d:=by have i:(List.range' 2 46).all (λd=>[2,3,5,7,11,13,17,19,23,29,31,37,41,43,47].any λq=>Nat.beq (d%q) 0)=af:=dD;have x:=mq.1 i d (by rw[aqa];omega);let ⟨q,g,l⟩:=List.any_eq_true.1 x;exact⟨q,g,HR<|kO l⟩
 have l:=DX a<|HR t;have C:=uw G a;rcases f q g with e|e
 .omega
 .exact e<|Nat.mod_eq_zero_of_dvd l
def aqb:EJ.Nodup:=(List.nodup_range' (s:=3) (n:=2300) (step:=1)).filter _
def aqc:Nat.ble (wU+1) (pP EJ)=af:=dD
def aqd:wU<pP EJ:=Z0 aqc
def aej{p}(a:p∈EJ):bq p:=⟨aei a,by have:=(N4 a).2;omega⟩
def iG.aek{a}(d:iG a):∃p,dw p/\3<=p/\p<2304/\EB p (dB a)=af:=by let ⟨p,c,hc⟩:=d.acK aqb (λ_ c=>aej c) aqd;exact⟨p,aei c,(N4 c).1,(N4 c).2,(acx (aej c) _).2 hc⟩
end Go.El
