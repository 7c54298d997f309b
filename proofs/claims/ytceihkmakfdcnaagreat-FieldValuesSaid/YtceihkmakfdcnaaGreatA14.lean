/- Plain: the factors modulo a small prime, lifted, are what combine asks for. Own work; no condition. -/
import Derived.Test.YtceihkmakfdcnaaGreatA13
import Derived.Test.YtceihkmakfdcnaaGreatA12
import Derived.Test.YtceihkmakfdcnaaGreatA8
import Derived.Test.YtceihkmakfdcnaaGreatA6
import Derived.Test.YtceihkmakfdcnaaGreatA11
import Derived.Test.YtceihkmakfdcnaaGreatA3
import Derived.Test.YtceihkmakfdcnaaGreatA4
set_option linter.all false
set_option maxHeartbeats 16000000
set_option maxRecDepth 100000
open Bool renaming false->ah,true->af
open Go.El renaming cS->I,rr->N,asM->R,Pb->U,iO->o,re->s,cI->j,rb->w,Cy->y
open Go.Proofs.Tryz renaming prog->z
open Go.Region renaming wanted->gH
open Int renaming toNat->ae,natAbs->aC,ofNat->Uu
open List renaming length->Z,getD->E,take->h,drop->az
open Nat renaming beq->gR
open Option renaming some->ad
open _root_ renaming Nat->Y,List->V,Int->O,Rat->D,Option->aw
namespace Go.El
open Go Go.Proofs Go.RowKit Fx
def ael{p:Y}:∀{L:V (V O×O)},(∀x∈L,br (fx x.1:Fx p)/\1<=x.2)->pQ (ig p L)->ig p L=fj (L.map (·.1))
 |[],_,_=>rfl
 |x::l,a,c=>by
  let ⟨d,h2⟩:=a x ay;have f:=ael (L:=l) (λy hy=>a y nV)<|c.of_dvd ⟨pk (fx x.1)<|ae x.2,by rw[ig,mul_comm]⟩;rw[ig,hJ,fj,f];by_cases e:ae x.2=1
  .rw[e,qQ]
  .exfalso;obtain⟨n,g⟩:∃n,ae x.2=n+1+1:=⟨ae x.2-2,G⟩;refine c _ d ⟨pk (fx x.1) n*ig p l,?_⟩;rw[ig,g];show pk (fx x.1) n*fx x.1*fx x.1*ig p l=_;ac_rfl
section
variable{p:Y}{a:V O}
def oK.ny(c:oK p a){L}(k:Bs p (fx a:Fx p) L):vb p a (L.map (·.1))/\∀g∈L.map (·.1),br (fx g:Fx p):=by
 have i:∀g∈L.map (·.1),Mon p g/\2<=Z g/\br (fx g:Fx p):=λg d=>by obtain⟨x,m,rfl⟩:=jW.1 d;let ⟨t,u,v,_⟩:=k.parts x m;exact⟨t,u,v⟩
 have n:(fx a:Fx p)=fj (L.map (·.1)):=by rw[<-k.prod];exact ael (λx m=>⟨(k.parts x m).2.2.1,(k.parts x m).2.2.2⟩) (by rw[k.prod];exact c.kV)
 have A:Z a=1+dn (L.map (·.1)):=by
  let ⟨t1,t2⟩:=yJ c.p1 A9 (l:=L.map (·.1)) λf r=>⟨(i f r).1.ne,(i f r).1.one⟩
  rw[<-tA c.H c.am,n,<-yK (L.map (·.1)) p (H5 _),tA c.H t1,t2];rfl
 refine⟨⟨c.am,λg d=>⟨(i g d).1,(i g d).2.1⟩,by rw[acs,n],acu c.H (λg d=>(i g d).2.2) (by rw[<-n];exact c.kV),A,?_⟩,λg d=>(i g d).2.2⟩;have:=c.l9;omega
def EH.mem{k}{l X}(d:EH p k a l X){f}(t:f∈X):∃g∈l,aL f/\Z f=Z g/\(fx f:Fx p)=fx g/\∀m,dq (E f m 0) ((p:O)^k)=E f m 0:=by
 obtain⟨i,n,rfl⟩:=J4 t;have c:i<Z l:=by rw[<-d.len];exact n
 have r:=d.ok i c;rw[aV,aV,cH n,cH c]at r;exact⟨l[i],ru c,r⟩
def EH.N5{k}{l X}(f:EH p k a l X):X.map (fx (p:=p))=l.map fx/\dn X=dn l:=by
 have g:∀(X l:V (V O)),X.length=Z l->(∀i,i<Z l->Z (X.getD i [])=Z (l.getD i [])/\(fx (X.getD i []):Fx p)=fx (l.getD i []))->X.map (fx (p:=p))=l.map fx/\dn X=dn l:=by
  intro X;induction X with
  |nil=>
   intro l c _
   rw[fB c.symm];exact⟨J,J⟩
  |cons x X n=>
   intro l c h
   cases l with
   |nil=>cases c
   |cons y l=>
    let ⟨i1,i2⟩:=n l (Nat.succ.inj c) λi d=>h (i+1)<|Nat.succ_lt_succ d
    have m:Z x=Z y/\(fx x:Fx p)=fx y:=h 0<|Nat.succ_pos _
    exact⟨by rw[hJ,hJ,i1,m.2],by rw[dn,dn,i2,m.1]⟩
 exact g X l f.len λi d=>⟨(f.ok i d).2.1,(f.ok i d).2.2.1⟩
def oK.cbX(c:oK p a){L}(n:Bs p (fx a:Fx p) L){k}(r:1<=k)(x:2*fU a<p^k){X}(d:EH p k a (L.map (·.1)) X):gy p ((p:O)^k) a X:=by
 let ⟨A,t⟩:=c.ny n;refine⟨c.H,⟨k,r,J⟩,c.am,λf m=>?_,λf m=>?_,?_,d.pr,c.kV,?_,λg u g2 i=>?_⟩
 .let ⟨_,_,l,_⟩:=d.mem m;exact l
 .let ⟨g,hg,_,_,v,_⟩:=d.mem m;rw[v];exact t g hg
 .have l:((L.map (·.1)).map<|fx (p:=p)).Pairwise Co:=DZ.2 A.co;rw[<-d.N5.1]at l;exact DZ.1 l
 .rw[d.N5.2];exact A.fl
 .have:=acw c.am u g2 i;have e:((p^k:Y):O)=(p:O)^k:=s7 p k;rw[<-e];omega
end
end Go.El
namespace Go.El
open Go Go.Proofs Go.RowKit Rx
def IN{a c}:ni a c<=0↔a<=c:=by
 unfold ni;by_cases d:a<c
 .rw[aq d];exact⟨λ_=>Rat.le_of_lt d,λ_=>G⟩
 .rw[b d];by_cases h2:c<a
  .rw[aq h2];exact⟨λh=>G,λh=>absurd h2<|Rat.not_lt.2 h⟩
  .rw[b h2];exact⟨λ_=>Rat.not_lt.1 h2,λ_=>eO _⟩
def Ul{a c}:ni a c=0↔a=c:=by
 constructor
 .intro h;refine Rat.le_antisymm (IN.1 G)<|IN.1 ?_;rw[TV];omega
 .rintro rfl;have:=TV a a;omega
def aem(a d c:V D):∀i,pX a d i<=0->pX d c i<=0->pX a c i<=0
 |0,_,_=>eO _
 |i+1,l,h2=>by
  rw[pX]at*;have r:=aem a d c i;have q1:=@IN (E a i 0)<|E d i 0;have t:=@IN (E d i 0)<|E c i 0;have u:=@IN (E a i 0)<|E c i 0;have p:=@Ul (E a i 0)<|E d i 0;have v:=@Ul (E d i 0)<|E c i 0;have A:=@Ul (E a i 0)<|E c i 0;generalize E a i 0=x at*;generalize E d i 0=y at*;generalize E c i 0=z at*;by_cases m:ni x y=0
  .rw[b (λe=>e m)]at l;have:=p.1 m;subst this;by_cases f:ni x z=0
   .rw[b (λe=>e f)]at*;exact r l h2
   .rw[aq f]at*;exact h2
  .rw[aq m]at l;have g:=q1.1 l;have k:y<=z:=by
    by_cases f:ni y z=0
    .rw[v.1 f];exact Rat.le_refl
    .rw[aq f]at h2;exact t.1 h2
   have n:=Rat.le_trans g k;have B:ni x z≠0:=λe=>by have:=A.1 e;subst this;exact m<|p.2<|Rat.le_antisymm g k
   rw[aq B];exact u.2 n
def aqf{a d c}(g:iH a d<=0)(f:iH d c<=0):iH a c<=0:=by
 have m:∀x y:O,oL x y<=0->x<=y:=λx y h=>by unfold oL at h;split at h<;>(try split at h)<;>omega
 have i:∀x y:O,x<y->oL x y<=0:=λx y h=>by unfold oL;rw[aq h];omega
 have k:∀{a d:V D},iH a d<=0->Z a<=Z d:=λ{a d} h=>by
  by_cases e:Z a=Z d
  .omega
  .rw[iH,aq e]at h;have:=m _ _ h;omega
 have p:=k g;have r:=k f;by_cases e:Z a=Z c
 .have l:Z a=Z d:=by omega
  have n:Z d=Z c:=G;rw[iH,b<|λh=>h l]at g;rw[iH,b<|λh=>h n]at f;rw[iH,b<|λh=>h e];rw[<-l]at f;exact aem a d c _ g f
 .rw[iH,aq e];exact i _ _ G
abbrev tO(x a:V D×O):Prop:=EF x a<=0
def aqg{x a c}(d:tO x a)(f:tO a c):tO x c:=aqf d f
def aqh{l}(c:l.Pairwise tO):gAd xg EF l (Z l-1):=λt d=>by
 have g:∀k(a:k<Z l),E l k xg=l[k]:=λk a=>by rw[aV,cH a];rfl
 have:=List.pairwise_iff_getElem.1 c t (t+1) G G G;rw[g t G,g (t+1) G];have e:=ac6 l[t+1] l[t];omega
section
variable{α:Type}(d:α)(lt:α->Bool)(x:α)(l:V α)
def aen:∀i,i<=Z l->((iv d lt x l i).1=ah/\(iv d lt x l i).2=h i l/\∀a,a<i->lt (E l a d)=ah)\/((iv d lt x l i).1=af/\∃k,k<i/\(∀a,a<k->lt (E l a d)=ah)/\lt (E l k d)=af/\(iv d lt x l i).2=h k l++x::(h i l).drop k)
 |0,_=> .inl ⟨J,J,λa A=>G⟩
 |i+1,n=>by
  have c:h (i+1) l=h i l++[E l i d]:=by rw[rv,aV,cH n];rfl
  have p:(h i l).length=i:=GJ;rw[T9];rcases aen i G with⟨g,r,m⟩|⟨g,k,B,t,u,v⟩
  .rw[g,r];cases f:lt (E l i d)with
   |false=>
    left
    refine⟨J,c.symm,λa C=>?_⟩
    by_cases e:a=i
    .rw[e];exact f
    .exact m a G
   |true=>
    right
    refine⟨J,i,G,m,f,?_⟩
    show h i l++[x]++[E l i d]=_
    rw[c,zI G,qp G,kF];rfl
  .rw[g];right;refine⟨J,k,G,t,u,?_⟩;show(iv d lt x l i).2++[E l i d]=_;rw[v,c,zI G,kF];rfl
def aqi:∃k,k<=Z l/\(∀c,c<k->lt (E l c d)=ah)/\(k<Z l->lt (E l k d)=af)/\rf d lt x l=h k l++x::az k l:=by
 unfold rf;rcases aen d lt x l (Z l) (a7 _)with⟨a,f,g⟩|⟨a,k,p,i,m,n⟩
 .refine⟨Z l,a7 _,g,λr=>G,?_⟩;rw[a,f,b T,AW]
 .refine⟨k,G,i,λ_=>m,?_⟩;rw[a,aq J,n,fv]
end
def IP(x:V D×O)(l:V (V D×O)):V (V D×O):=rf ([],0) (λy=>decide<|iH x.1 y.1<0) x l
def aqj x l:(IP x l).Perm (x::l):=adG _ _ _ _
def aqk{x}{l}(t:l.Pairwise tO):(IP x l).Pairwise tO:=by
 let ⟨k,H,v,A,B⟩:=aqi ([],0) (λy:V D×O=>decide<|iH x.1 y.1<0) x l;rw[IP,B];have C:(h k l++az k l).Pairwise tO:=by rw[ry];exact t
 let ⟨p1,f,F⟩:=wZ.1 C;have g:∀j(c:j<Z l),E l j ([],0)=l[j]:=λj c=>by rw[aV,cH c];rfl
 have i:∀y∈h k l,tO y x:=λy a=>by
  obtain⟨j,c,rfl⟩:=J4 a;have m:j<k:=by rw[fp]at c;omega
  have d:=aT<|v j m;rw[g j G]at d;rw[qm];show EF _ _<=0;rw[ac6];show-(iH x.1 _)<=0;omega
 have n:∀y∈az k l,tO x y:=λy a=>by
  have p:k<Z l:=eQ λt=>by rw[qp G]at a;cases a
  have d:=aK<|A p;rw[g k p]at d;have u:tO x l[k]:=Int.le_of_lt d;rw[pn p]at a f;rcases bY.1 a with rfl|a
  .exact u
  .exact aqg u<|(ju.1 f).1 y a
 refine wZ.2 ⟨p1,ju.2 ⟨n,f⟩,λy a z r=>?_⟩;rcases bY.1 r with rfl|r
 .exact i y a
 .exact F y a z r
def pY(l:V (V D×O)):V (V D×O):=l.foldl (λo x=>IP x o) []
def aeo l x:pY (l++[x])=IP x (pY l):=by rw[pY,List.foldl_append];rfl
def Um:∀(n:Y)(l:V (V D×O)),Z l=n->(pY l).Perm l/\(pY l).Pairwise tO
 |0,l,c=>by rw[fB c];exact⟨List.Perm.refl _,List.Pairwise.nil⟩
 |n+1,l,c=>by
  have a:l≠[]:=λe=>by rw[e]at c;cases c
  have e:l=l.dropLast++[l.getLast a]:=(T2 a).symm;let ⟨i1,i2⟩:=Um n l.dropLast (by rw[List.length_dropLast];omega);rw[e,aeo];exact⟨(aqj _ _).trans<|((List.Perm.cons _ i1)).trans (List.perm_append_singleton _ _).symm,aqk i2⟩
def aql{a}(B:iG a)(hq:∀i,QS 20 (E a i 0)):∃n:V (V Int),(∀r∈n,aL r/\Rx.br (Rx.zx r))/\Rx.oF n=Rx.zx (dB a)/\al z 141 [I .q a] (I (.sl .q)<|n.map<|jP<|dA a):=by
 have l2:=B.l2;have l9:=B.l9;let ⟨p,⟨hp,p3,b⟩,W⟩:=T1 (P:=λp=>dw p/\3<=p/\EB p (dB a)=af) (by let ⟨p,m,l,_,h4⟩:=B.aek;exact⟨p,m,l,h4⟩);have hp9:p<2304:=by let ⟨q,m,l,F,h4⟩:=B.aek;exact uv (eQ λhc=>W q G ⟨m,l,h4⟩) F
 have v:=B.mf;have H:bq p:=⟨hp,G⟩;have M:oK p (dB a):=⟨H,v.am,v.l2,v.l9,(acx H _).1 b⟩;have yX:Z (dB a)=Z a:=y6 a;have K:aS (md p<|dB a)=md p (dB a):=M.trim;let ⟨f1,f2,f3⟩:=M.f;have il:md p (dB a)≠[]:=f1.ne;let ⟨L,hL,aqm⟩:=ao0 H G (a:=md p<|dB a) G (λi=>(AE H.pos (dB a) i).1) (by rw[LH,K];exact il) (λd hd=>by rw[LH,K,f2,yX]at hd;have m:d<=4:=G;have l:p^d<=2304^4:=cj (AY G d)<|fT T m;omega);rw[LH,K]at hL;have FO:(Fx.fx (kT p<|md p<|dB a):Fx p)=Fx.fx (dB a):=by have e:=(Fx.MC H f1.c il).2.2.2.2;rw[f1.one,Fx.nS,Fx.one_mul,f3]at e;exact e.symm
 rw[FO]at hL;let ⟨A,hi⟩:=M.ny hL;have hL8:Z L<=8:=by have:=(TA λf hf=>(A.ok f hf).2).1;have:=A.fl;rw[cR]at*;omega
 let ⟨k1,k2,k3⟩:=acy (p:=p) G<|2*fU (dB a);let ⟨m1,m2⟩:=v.mBp (p:=p) G G;have hlX:=apq H A (u:=9) (w:=9) k1 G (λi=>(v.aB i).le G) m1 G G G;have O:=ad0 H k1 _ _ A;have C:=M.cbX hL k1 k2 O;let ⟨G1,G2⟩:=gy.all (p:=p) 8 Un (λe=>by have m:=A.fl;rw[<-O.N5.2,e]at m;have l:Z (dB a)=1:=m;omega) C;have P2:=ad' (w:=9) T T m1 8 (dB a) _ T Un (λe=>by
  have m:=A.fl;rw[<-O.N5.2,e]at m;have l:Z (dB a)=1:=m;omega) Un G C (λf hf i=>by
  let ⟨_,_,_,_,_,f4⟩:=O.mem hf;rw[<-f4 i];exact Rj (mW H.pos) m1)
 refine⟨_,G1,G2,?_⟩;have Ey:=Uj ((p:Int)^mT p (2*fU (dB a))) 8 (dB a)<|rh p (mT p<|2*fU (dB a)) (dB a)<|L.map (·.1);generalize qY ((p:Int)^mT p (2*fU (dB a))) 8 (dB a) (rh p (mT p<|2*fU (dB a)) (dB a)<|L.map (·.1))=n at*;have hGB:∀g∈n,Z g<=12/\∀i,aJ 210 (E g i 0):=λg hgm=>by
  let ⟨g1,g2⟩:=G1 g hgm;have hd:Rx.zx g∣Rx.zx (dB a):=by rw[<-G2];exact acQ hgm
  have hb:=λi=>acw v.am g1 hd i
  refine⟨?_,λi=>?_⟩
  .have m:=Rx.jy hd (by rw[<-G2];exact(acR λg b=>(G1 g b).2).1);rw[Rx.kr g1.can,Rx.kr v.am.can]at m;omega
  .have m:=v.bB;have l:=hb i;have:aJ 8 (E g i 0):=by unfold aJ at*;omega
   exact this.le G
 generalize hX:rh p (mT p<|2*fU (dB a)) (dB a) (L.map (·.1))=X at*;have hfB:∀i,aJ 201 (E (oS a) i 0):=λi=>by
  by_cases hi:i<Z a
  .rw[IM a hi];exact aeg B hq hi
  .rw[eK _ (by rw[zd];omega)];exact aJ.zero _
 have Mg:=apy (oS a) (by rw[zd];omega) (by rw[zd];omega)<|λi=>(hfB i).le G;rw[ap7 B]at Mg;have EX:∀g∈n,al z 180 [I .z g,.a<|av .z<|E (oS a) (ae<|(Z (oS a):Int)-1) 0] (I .q<|jP (dA a) g):=λg b=>by
  have e:E (oS a) (ae<|(Z (oS a):Int)-1) 0=((dA a:Y):Int):=by rw[zd,(G:ae ((Z a:Int)-1)=Z a-1),IM a G,N3 B]
  have m:=hfB<|ae<|(Z (oS a):Int)-1;rw[e]at m⊢;exact apA g (dA a) (EE a _) (hGB g b).1 (hGB g b).2<|m.le G
 have Er:=apx (dB a) 6 T G v.aB;have hBS:Sm ((fU (dB a):Y):Int):=by have m:=v.bB;exact(show aJ 8 _ by unfold aJ at*;omega:aJ 8 ((fU (dB a):Y):Int)).sm G
 have had:=we ((fU (dB a):Y):Int) ((fU (dB a):Y):Int) hBS hBS;have hil:=ap9 B hq;have ja:=zd a;generalize oS a=f0 at*;have x:=Yz<|dB a;have hsS:∀i,Sm (E (dB a) i 0):=λi=>(v.aB i).sm T
 refine aR Tryz.func141 ?_;refine N J<|bD J J hil J<|w<|rc J J Mg<|s J<|N J ?_;generalize dB a=S at*;refine U<|R<|aY (α:=Y) (λq=>⟨[(3,I .z f0),(4,I .z S),(5,cU q)],[],4,[]⟩) (λq=>dw q/\3<=q/\q<=p) (λq=>p-q) 3 ⟨⟨T,λd m l=>absurd (ls m m) G⟩,a7 _,p3⟩ (wk ⟨sR J,sR J,sE J J,oo⟩ oo) ?_;rintro q ⟨q1,q2,q3⟩;have wi:(0:Int)<(q:Int):=G;have x:=Yz S q G G G hsS;have Iq:bs q (aS<|md q S):=km wi<|AE wi S;have Bb:bs q (aS<|jq q<|aS<|md q S):=km wi<|Iz G _;have HJ:Z (aS<|md q S)<=9:=by have:=oB<|md q S;rw[wC]at this;omega
 have RV:Z (aS<|jq q<|aS<|md q S)<=9:=by have:=oB<|jq q<|aS<|md q S;have:=Iy q<|aS<|md q S;omega
 have hde:=adu (aS<|md q S) q G G G Iq.1;have hgc:=DG q q1 G _ _ G G Iq Bb;refine U<|w<|rc J J x<|rc J J x<|rc J J hde<|rc J J hgc<|s J<|y J (λm=>?_)<|λm=>?_
 .have m:(Z (fH q (aS<|md q S)<|aS<|jq q<|aS<|md q S):Int)≠1:=bne_iff_ne.1 m;have Q:EB q S=ah:=ox λe=>m tU
  have Uo:q<p:=Nat.lt_of_le_of_ne q3 λe=>by rw[e,b]at Q;cases Q
  let ⟨r,r1,r2,r3,r4,r5⟩:=ajF q G;refine aA<|R<|bD J J r5 J<|rt J<|eH<|aG r ⟨r1,G,zp λe=>r4 p Uo e hp⟩ (G:p-r<p-q) aH
 .have m:((Z (fH q (aS<|md q S)<|aS<|jq q<|aS<|md q S):Int) !=1)=ah:=m;have Q:EB q S=af:=rV (by have l:=bne_eq_false_iff_eq.1 m;omega);have Uo:q=p:=Nat.le_antisymm q3<|zp λe=>W q e ⟨q1,q2,Q⟩;subst Uo;refine a6<|aO ?_;rw[K]at x;refine w<|rc J J x<|rc J J aqm<|s J<|w<|fg (.sl au) [] J J (s J<|U<|N J ?_);refine R<|aY (α:=Y×V (V Int)) (λt=>⟨[(3,I .z f0),(4,I .z S),(5,cU q),(8,.c<|.S MT L),(10,.c<|.X 6000000),(11,j t.1)],[(6000000,.vec 167 (.sl au) t.2)],8,[]⟩) (λt=>t.1<=Z L/\t.2=(h t.1 L).map (·.1)) (λt=>Z L-t.1) (0,[]) ⟨be _,J⟩ aH ?_;rintro⟨i,o⟩ ⟨i1,i2⟩;simp only at i1 i2;have ho:Z o<=9:=by rw[i2,cR,fp];omega
  refine U<|N J<|y J (λl=>?_)<|λl=>?_
  .have l:i<Z L:=by have l:(i:Int)<(Z L:Int):=aK l;omega
   have ei:ae ((i:Int))=i:=bW i;refine aA<|U<|R ?_;refine bT<|rl (.sl au) [_] J J (ra J J J J J J J J J ?_ ?_<|s J ?_) (hp:=aF)
   .show(Z o+1+(Z o+1)/4+192)*24<=_;omega
   .show(Z o+1)*1<=_;omega
   refine aX<|rt J (hp:=aF)<|aG (i+1,o++[(E L (ae<|(i:Int)) d0M).1]) ⟨l,?_⟩ (G:Z L-(i+1)<Z L-i)<|Wk.trans (wk (st':=⟨[(3,I .z f0),(4,I .z S),(5,cU q),(8,.c<|.S MT L),(10,.c<|.X 9007000),(11,j ((i+1:Y):Int))],[(9007000,.vec 167 (.sl au)<|o++[(E L (ae<|(i:Int)) d0M).1])],20,[]⟩) (bJ J) ⟨bR J,oo⟩)<|Wk.trans (fa 6000000 9007000 J J J) aH;show o++[_]=(h (i+1) L).map (·.1);rw[ei,i2,rv,fe,aV,cH l];rfl
  .have l:i=Z L:=by have l:¬(i:Int)<(Z L:Int):=aT l;omega
   rw[l,fv]at i2;subst i2;refine a6<|aO ?_;refine c6 6000000 J J J ?_;refine w<|rc J J Er<|rc J J Er<|rc J J had<|s J<|N J ?_;have hpw:∀jg:Y,((q:Int)^jg<=((fU S:Y):Int)+((fU S:Y):Int)↔q^jg<=2*fU S):=λjg=>by rw[<-s7];omega
   refine U<|R<|aY (α:=Y) (λk=>⟨[(3,I .z f0),(4,I .z S),(5,cU q),(10,I (.sl au)<|L.map (·.1)),(12,.c<|.P 9005000 0),(13,j k)],[(9005000,.box 42 0<|av .z<|((fU S:Y):Int)+((fU S:Y):Int))],11,[]⟩) (λk=>1<=k/\k<=mT q (2*fU S)) (λk=>mT q (2*fU S)-k) 1 ⟨a7 _,k1⟩ aH ?_;rintro k ⟨e1,e2⟩;refine U<|w<|rc J J (Ri q k G G)<|rc J J (KL _ _)<|s J<|y J (λF=>?_)<|λF=>?_
   .have F:=(hpw k).1<|acO.1<|aK F;have h4:k≠mT q (2*fU S):=λe=>by rw[e]at F;omega
    refine aA<|R<|rt J (hp:=aF)<|eH<|aG (k+1) ⟨G,G⟩ (G:mT q (2*fU S)-(k+1)<mT q (2*fU S)-k) aH
   .have F:¬q^k<=2*fU S:=λe=>aT F (acO.2<|(hpw k).2 e)
    have h4:k=mT q (2*fU S):=Nat.le_antisymm e2<|zp λe=>F<|k3 k e1 e;subst h4;refine a6<|aO ?_;refine w<|rc J J hlX<|rc J J (Ri q _ G G)<|rc J J P2<|s J<|w<|fg (.sl .q) [] J J (s J<|U<|N J ?_);refine R<|aY (α:=Y×V (V D)) (λt=>⟨[(3,I .z f0),(14,I (.sl .z) n),(15,.c<|.X 13000000),(16,j t.1)],[(13000000,.vec 29 (.sl .q) t.2)],15,[]⟩) (λt=>t.1<=Z n/\t.2=(h t.1 n).map (jP<|dA a)) (λt=>Z n-t.1) (0,[]) ⟨be _,J⟩ aH ?_;rintro⟨i,o⟩ ⟨i1,i2⟩;simp only at i1 i2;have ho:Z o<=9:=by rw[i2,cR,fp];omega
    refine U<|N J<|y J (λl=>?_)<|λl=>?_
    .have l:i<Z n:=by have l:(i:Int)<(Z n:Int):=aK l;omega
     have hm:E n (ae<|(i:Int)) (ET.aD<|.sl .z)=n[i]:=by rw[bW,aV,cH l];rfl
     have hb:=EX _<|ru l;rw[<-hm]at hb;refine aA<|U<|R ?_;refine bT<|rc J J hb (rl (.sl .q) [_] J J (ra J J J J J J J J J ?_ ?_<|s J ?_)) (hp:=aF)
     .show(Z o+1+(Z o+1)/4+192)*24<=_;omega
     .show(Z o+1)*1<=_;omega
     refine aX<|rt J (hp:=aF)<|aG (i+1,o++[jP (dA a) (E n (ae<|(i:Int))<|ET.aD<|.sl .z)]) ⟨l,?_⟩ (G:Z n-(i+1)<Z n-i)<|Wk.trans (wk (st':=⟨[(3,I .z f0),(14,I (.sl .z) n),(15,.c<|.X 16013000),(16,j ((i+1:Y):Int))],[(16013000,.vec 29 (.sl .q)<|o++[jP (dA a) (E n (ae<|(i:Int))<|ET.aD<|.sl .z)])],30,[]⟩) (bJ J) ⟨bR J,oo⟩)<|Wk.trans (fa 13000000 16013000 J J J) aH;show o++[_]=(h (i+1) n).map (jP<|dA a);rw[hm,i2,rv,fe,cH l];rfl
    .have l:i=Z n:=by have l:¬(i:Int)<(Z n:Int):=aT l;omega
     rw[l,fv]at i2;subst i2;refine a6<|aO ?_;refine c6 13000000 J J J ?_;exact N J<|cx J
def aeu{g t u}{a c}(n:bS a)(k:bS c)(d:c≠[])(p:Z a<=500)(r:Z c<=500)(l:Ht (2^t) (lx a))(m:Ht (2^u) (lx c))(f:t+(u+1)*(Z a+1-Z c)<32*g)(v:u<32*g):AL g a c:=by
 let ⟨q1,x,A⟩:=HH k d l m;refine⟨p,r,k.ne d,λi=>m.qs (nn v) i,λj B i=>?_,λf=>(uJ n).ne f,λi=>x.qs (nn f) i⟩;by_cases hl:Z c<=Z a
 .exact(A hl j B).qs (nn f) i
 .have:j=0:=by omega
  subst this;exact l.qs (nn G) i
def Up{t u}(k:t<=2000)(l:u<=2000){a b}(d:bS a)(f:bS b)(c:b≠[])(m:Z a<=9)(n:Z b<=9)(g:Ht (2^t) (lx a))(i:Ht (2^u) (lx b)):al z 116 [I .q a,I .q b] (I .q<|iF a b):=by have p:=cQ.2 c;have r:(u+1)*(Z a+1-Z b)<=(u+1)*9:=jh _ G;exact akQ (s:=100000000) G G d c<|aeu d f c G G g i G G
def aev{t}(v:t<=2000){a b}(f:bS a)(c:bS b)(p:a≠[])(x:Z a<=9)(A:Z b<=9)(l:Ht (2^t) (lx a))(m:Ht (2^t) (lx b)):∃g,al z 131 [I .q a,I .q b] (I .q g)/\bS g/\Hw (lx g) (lx a) (lx b):=by
 let ⟨B,g2,r⟩:=akz (k:=Z b+1) f c G p;obtain⟨s,C⟩:∃s,s=100000000:=⟨_,J⟩;have d:yq s (Z b+1) a b/\(∀i,QS s (E (jl (Z b+1) a b) i 0))/\Z (jl (Z b+1) a b)<=500:=by
  rw[yq,jl];split
  .rename_i e;exact⟨.inl e,λi=>l.qs (nn G) i,G⟩
  .rename_i e;have F:=cQ.2 e;let ⟨q1,u,H⟩:=HH c e l m;have K:(t+1)*(Z a+1-Z b)<=(t+1)*9:=jh _ G;have n:3^Z b<=19683:=cj (fT T (G:Z b<=9)) T;let ⟨i1,i2,i3⟩:=Zn (s:=s) (Z b) (t+(t+1)*(Z a+1-Z b)) b (dZ<|eY a b) c (tr _) (by rcases Mc (a:=a) e with h|h;omega;rw[h,m7];omega) ((Mc (a:=a) e).symm) G
    (m.le<|fT T<|Nat.le_add_right _ _) (Zm (uJ f) u) (by refine cj (jh _ n) ?_;omega)
   exact⟨.inr ⟨aeu f c e G G l m G G,i1⟩,i2,i3⟩
 exact⟨_,akR G G (Z b+1) a b f c d.1 G d.2.1,g2,r⟩
def kR(n:Y):Y->Y:=λm=>m-n
def aew n L:pF (kR n) L=pF (kW<|n+1) L*pF (kR<|n+1) L:=by rw[<-AR];exact wN λx _=>by unfold kW kR;split<;>omega
def aqt{L}(a:FL L){n}{c}(i:Hw c (pF (kW n) L) (pF (kR n) L)):c=pF (kW<|n+1) L:=by
 let ⟨d1,d2,d3,U,V,d4⟩:=i;refine d1.eq (uI a.mo) ?_ ?_
 .have d:Co c (pF (kP n) L):=DQ d1.ne λQ f q1 k=>by
   let ⟨x,hx,u,l⟩:=yv f k;let ⟨z,g,m,p⟩:=yv f<|dvd_trans q1 d3;have r:x.2=n:=RB.1 (by have:=Hx n x.2;omega);have v:n<z.2:=by unfold kR at m;omega
   have t:x.1=z.1:=(a.fW x hx).eq (a.fW z g) (a.mo x hx) (a.mo z g)<|dvd_trans (f.assoc (a.fW x hx) l) p;exact FL.RA a.AQ hx g (λe=>by rw[e]at r;omega) t
  rw[RC]at d2;exact d.dvd d2
 .rw[d4];exact dvd_add (dV (by rw[RC n L];exact dvd_mul_left _ _) _)<|dV (by rw[aew n L];exact dvd_mul_right _ _) _
def aqu{a}(d:bS a)(c:2<=Z a):bS (rX a):=by
 right;rw[Rl,YO G,(G:Z a-1-1+1=Z a-1)];have f:=d.ne (λe=>by rw[e]at c;simp at c);intro e;rcases AN.1 e with e|e
 .have:((Z a-1:Y):O)=0:=by exact_mod_cast e
  omega
 .exact f e
def aqv{c:Y->Y}(a:∀m,c m<=m) L:pF c L∣pF id L:=by refine⟨pF (λm=>m-c m) L,?_⟩;rw[<-AR];exact wN λx _=>by have:=a x.2;show x.2=_;omega
def BB:Y->Y->V D->V D->V (V D×O)->V (V D×O)->Prop
 |0,_,_,_,_,_=>False
 |k+1,n,a,c,acc,out=>if 1<Z a then∃p g d,
   al z 131 [I .q a,I .q c] (I .q p)/\al z 116 [I .q a,I .q p] (I .q g)/\al z 116 [I .q c,I .q p] (I .q d)/\
   BB k (n+1) p d (if 1<Z g then acc++[(g,(n:O))]else acc) out
  else out=acc
def aqw(a u v:V D) out(Q:Z a<=9)(A:¬Z a<2){d g B:V D}(F:al z 132 [I .q a] (I .q d))(H:al z 131 [I .q a,I .q d] (I .q g))(L:al z 29 [I .q a] (I .q B))(M:al z 116 [I .q B,I .q g] (I .q u))
  (P:BB (Z a) 1 u g [] out):al z 140 [I .q a] (I UT out):=by
 refine aR Tryz.func140 ?_
 refine N J<|w<|fg UT [] J J (s J<|U<|N J<|y J (λh=>?_)<|λ_=>aA ?_)
 .have h:(Z a:O)<2:=aK h;exact absurd h G
 refine w<|rc J J F<|rc J J H<|s J<|w<|rc J J L<|rc J J M<|s J<|U<|N J ?_
 refine R<|aY (α:=Y×Y×V D×V D×V (V D×O)) (λx=>⟨[(3,.c<|.X 1000000),(4,I .q x.2.2.2.1),(5,I .q x.2.2.1),(6,j x.2.1)],[(1000000,.vec 114 UT x.2.2.2.2)],7,[]⟩) (λx=>BB x.1 x.2.1 x.2.2.1 x.2.2.2.1 x.2.2.2.2 out/\Z x.2.2.2.2<x.2.1/\x.2.1+x.1<=20) (λx=>x.1) (Z a,1,u,g,[]) ⟨P,Nat.zero_lt_one,(G:1+Z a<=20)⟩ aH ?_
 rintro⟨k,n,u,v,i⟩ ⟨l,A,C⟩
 simp only at l A C
 cases k with
 |zero=>exact absurd l<|λh=>h
 |succ k=>
  rw[BB]at l
  refine U<|N J<|y J (λm=>?_)<|λm=>?_
  .have m:1<Z u:=by have m:(Z u:O)>1:=aK m;omega
   rw[aq m]at l;let ⟨p,f,K,d1,d2,d3,l⟩:=l;refine cZ<|aO<|U<|R<|w<|rc J J d1<|s J<|w<|rc J J d2<|s J<|jk ⟨[(3,.c<|.X 1000000),(4,I .q v),(6,j n),(7,I .q p)],[(1000000,.vec 114 UT (if 1<Z f then i++[(f,(n:O))]else i))],30,[]⟩ ?_<|λr=>N J<|y J (λt=>?_)<|λt=>cZ ?_
   .refine N J<|bT<|rc J J d3<|s J<|aX<|rt J (hp:=aF)<|aG (k,n+1,p,K,if 1<Z f then i++[(f,(n:O))]else i) ⟨l,?_,by show n+1+k<=_;omega⟩ (dL k) aH;show Z (if 1<Z f then i++[(f,(n:O))]else i)<n+1;split
    .rw[hP];show Z i+1<_;omega
    .omega
   .have t:1<Z f:=by have t:(Z f:O)>1:=aK t;omega
    rw[aq t]at r;refine bT<|rl UT [(f,(n:O))] J J (ra J J J J J J J J J ?_ ?_<|s J ?_)
    .show(Z i+1+(Z i+1)/4+192)*32<=_;omega
    .show(Z i+1)*2<=_;omega
    .exact dM r<|Wk.trans (wk (st':=⟨[(3,.c<|.X 11005000),(4,I .q v),(6,j n),(7,I .q p)],[(11005000,.vec 114 UT<|i++[(f,(n:O))])],12,[]⟩) (bJ J) ⟨bR J,e⟩)<|Wk.trans (fa 1000000 11005000 J J J) aH
   .have t:¬1<Z f:=by have t:¬(Z f:O)>1:=aT t;omega
    rw[b t]at r;exact dM r aH
  .have m:¬1<Z u:=by have m:¬(Z u:O)>1:=aT m;omega
   rw[b m]at l;rw[l];exact kJ<|m8<|nK<|kK<|aO<|c6 1000000 J J J<|N J<|bI<|atR J
def aqx{t}(ht:t<=1500){a}(ha:bS a)(h0:a≠[])(la:Z a<=9)(hA:Ht (2^t) (lx a)){L}(P:FL L)(hF:pF id L=lx (dZ a))(hD:∀tH,Mo tH->tH∣pF id L->Ht (2^t) tH):
  ∃F,al z 140 [I .q a] (I UT F)/\F.map (λp=>(lx p.1,p.2))=np L (Z a) 1/\∀p∈F,bS p.1:=by
 have hl:=cQ.2 h0
 have lm:=RI ha
 have jU:sz (pF id L)=Z a:=by rw[hF,gQ<|tr a,lm]
 have Q:∀{c:Y->Y}{v:V D},(∀m,1<=m->c m<=m)->bS v->lx v=pF c L->Z v<=9/\v≠[]/\Ht (2^t) (lx v)/\Mo (lx v):=λ{c v} hc W e=>by
  have e2:pF c L=pF (λm=>min (c m) m) L:=wN λx M=>by have:=hc x.2<|P.pos x M;show _=min _ _;omega
  have hm:Mo (lx v):=by rw[e];exact uI P.mo
  have hd:lx v∣pF id L:=by rw[e,e2];exact aqv (λm=>Mj _ _) L
  have C:=jy hd (uI P.mo).ne;rw[gQ W,jU]at C;exact⟨G,λe=>by rw[e,pJ]at hm;exact hm.ne J,hD _ hm hd,hm⟩
 by_cases h2:Z a<2
 .have M:∀x∈L,x.2<1:=λx M=>by have:=RP P M;omega
  refine⟨[],?_,by rw[RN _ M];rfl,λp hp=>by cases hp⟩;refine aR Tryz.func140 ?_;refine N J<|w<|rl UT [] J J (s J<|U<|N J<|y J (λ_=>?_)<|λh=>?_)
  .exact N J<|bI<|cA<|atR J
  .have h:¬(Z a:O)<2:=aT h;exact absurd h G
 have qd:=aqu ha G
 have ed:lx (rX a)=bt (lx a):=akw a
 have ld:=Rl a
 have td:Ht (2^(t+4)) (lx<|rX a):=by rw[ed];exact(hA.bt (n:=9) (by rw[gQ ha];omega) G).le (by rw[mE,gN];exact jh _ T)
 have c1:=akJ (k:=100000000) a G (λi=>hA.qs (nn G) i) G G
 generalize rX a=d at*
 have lift:∀{a qC:Y}{A:Rx},Ht (2^a) A->a<=qC->Ht (2^qC) A:=λh OL=>h.le<|fT T OL
 let ⟨g,c2,qg,gg⟩:=aev (t:=t+4) (a:=a) (b:=d) G ha qd h0 G G (lift hA G) td
 obtain⟨c,ec⟩:∃c,c=(E a (Z a-1) 0)⁻¹ :=⟨_,J⟩
 have hc0:c≠0:=by rw[ec];exact qT<|ha.ne h0
 have eM:lx (dZ a)=K c*lx a:=by rw[yx h0,ec]
 have gF:Hw (lx g) (pF id L) (bt<|pF id L):=by let ⟨g1,g2,g3,N0,Bz,g4⟩:=gg;rw[hF,eM,Hp];rw[ed]at g3 g4;refine⟨g1,dV g2 _,dV g3 _,N0*K c⁻¹,Bz*K c⁻¹,?_⟩;have e1:N0*K c⁻¹ *(K c*lx a)+Bz*K c⁻¹ *(K c*bt (lx a))=(K c⁻¹ *K c)*(N0*lx a)+(K c⁻¹ *K c)*(Bz*bt (lx a)):=fc;rw[e1,pI hc0,one_mul,one_mul];exact g4
 let ⟨eg,_⟩:=akv P gF
 have eg:lx g=pF (kR 1) L:=eg
 have hkW:∀n m,1<=m->kW n m<=m:=λn m h=>cj (Y9 n m) h
 have hkR:∀n m,1<=m->kR n m<=m:=λn m _=>Nat.sub_le _ _
 let ⟨g9,g0,tg,mg⟩:=Q (hkR 1) qg eg
 have c3:=RR (k:=100000000) a G (λi=>hA.qs (nn G) i) (λ_=>ha.ne h0) G
 have c4:=Up (t:=t) (u:=t) (a:=dZ a) (b:=g) G G (tr a) qg g0 G g9 (by rw[<-hF];exact hD _ (uI P.mo)<|dvd_refl _) tg
 have ewq:lx (iF (dZ a) g)=pF (kW 1) L:=yt mg.ne ((AS (tr a) qg g0<|hF▸gF.l).symm.trans<|by rw[<-hF,RD P,eg];rfl)
 have qw:=L5 (dZ a) g
 generalize iF (dZ a) g=w1 at*
 have run:∀(k n:Y)(v S:V D)(H:V (V D×O)),n+k=Z a+1->1<=k->1<=n->bS v->bS S->lx v=pF (kW n) L->lx S=pF (kR n) L->∃B,BB k n v S H (H++B)/\B.map (λp=>(lx p.1,p.2))=np L k n/\∀p∈B,bS p.1:=by
  intro k;induction k with
  |zero=>intro n v S H _ h;omega
  |succ k ih=>
   intro n v S H hnk _ hn W hy j ey
   let ⟨w9,w0,tw,mw⟩:=Q (hkW n) W j
   let ⟨y9,y0,ty,my⟩:=Q (hkR n) hy ey
   by_cases hc:1<Z v
   .obtain⟨x,M,hxn⟩:∃x∈L,n<=x.2:=eQ λo=>by
     have e1:pF (kW n) L=1:=L3 λx M=>b λh=>o ⟨x,M,h⟩
     rw[e1]at j;have:=gQ W;rw[j,qR]at this;omega
    have Bq:=RP P M;let ⟨p,d1,R,gp⟩:=aev (t:=t) (a:=v) (b:=S) G W hy w0 w9 y9 tw ty;rw[j,ey]at gp;have ep:=aqt P gp;let ⟨p9,p0,tp,mp⟩:=Q (hkW<|n+1) R ep;have d2:=Up (t:=t) (u:=t) G G W R p0 w9 p9 tw tp;have d3:=Up (t:=t) (u:=t) G G hy R p0 y9 p9 ty tp;have eg2:lx (iF v p)=pF (kP n) L:=yt mp.ne ((AS W R p0<|by rw[j];exact gp.l).symm.trans<|by rw[j,ep];exact RC n L);have ez:lx (iF S p)=pF (kR<|n+1) L:=yt mp.ne ((AS hy R p0<|by rw[ey];exact gp.r).symm.trans<|by rw[ey,ep,mul_comm<|pF (kR<|n+1) L];exact aew n L);have qg2:=L5 v p;have qz:=L5 S p;generalize iF v p=f at*;generalize iF S p=fK at*;let ⟨B,o1,o2,o3⟩:=ih (n+1) p fK (if 1<Z f then H++[(f,(n:O))]else H) G G G R qz ep ez;have Io:sz (pF (kP n) L)=Z f:=by rw[<-eg2,gQ qg2]
    refine⟨(if 1<Z f then[(f,(n:O))]else[])++B,?_,?_,?_⟩
    .rw[BB,aq hc];refine⟨p,f,fK,d1,d2,d3,?_⟩;by_cases C:1<Z f
     .rw[aq C]at o1⊢;rw[aq C,<-kF];exact o1
     .rw[b C]at o1⊢;rw[b C];exact o1
    .rw[np,fe,o2,Io];by_cases C:1<Z f
     .rw[aq C,aq C,hJ,IL,eg2]
     .rw[b C,b C];rfl
    .intro q X;rcases bg.1 X with X|X
     .by_cases C:1<Z f
      .rw[aq C,gI]at X;rw[X];exact qg2
      .rw[b C]at X;cases X
     .exact o3 q X
   .have o:∀x∈L,x.2<n:=λx M=>Nat.lt_of_not_le λh=>by have C:=jy (Hv (c:=kW n) M<|by rw[L4.2 h];omega) (uI P.mo).ne;have h2:=(P.fW x M).1;rw[<-j,gQ W]at C;omega
    refine⟨[],?_,by rw[RN _ o];rfl,λp hp=>by cases hp⟩;rw[BB,b hc,gO]
 let ⟨F,o1,o2,o3⟩:=run (Z a) 1 w1 g [] G G G qw qg ewq eg
 exact⟨F,aqw a w1 g F la h2 c1 c2 c3 c4 o1,o2,o3⟩
open Classical in
noncomputable def kY(c:V D):V (V D):=if e:∃a,((∀u∈a,E u (Z u-1) 0=1/\bS u/\Mo (lx u)/\br (lx u))/\ny a=lx c)/\al z 141 [I .q c] (I (.sl .q) a)then Classical.choose e else[]
def aeB{a}(d:iG a)(f:∀i,QS 20 (E a i 0)):((∀u∈kY a,E u (Z u-1) 0=1/\bS u/\Mo (lx u)/\br (lx u))/\ny (kY a)=lx a)/\al z 141 [I .q a] (I (.sl .q)<|kY a):=by let ⟨G,g,g2,k⟩:=aql d f;have e:∃c,((∀u∈c,E u (Z u-1) 0=1/\bS u/\Mo (lx u)/\br (lx u))/\ny c=lx a)/\al z 141 [I .q a] (I (.sl .q) c):=⟨_,d.unG g g2,k⟩;unfold kY;rw[dif_pos e];exact uC e
def aqA{ir:V D->V (V D)}{a}{i}(d:i<Z a):fo ir (h (i+1) a)=fo ir (h i a)++(ir (E a i xg).1).map (λu=>(u,(E a i xg).2))/\∃C,fo ir a=fo ir (h (i+1) a)++C:=by
 have c:h (i+1) a=h i a++[E a i xg]:=by rw[rv,aV,cH d];rfl
 refine⟨?_,fo ir<|az (i+1) a,?_⟩
 .rw[c,fo,fo,CV];simp
 .rw[fo,fo,fo,<-CV,ry]
def aqB{a:V D}(l:nz a):∃M,acW a M/\Z M<=8/\(∀x∈M,EG 20 x)/\al z 87 [I .q a] (.t [(af,av .q<|E a (Z a-1) 0),(ah,[.S UT M]),(ah,[.I .i64 0])]):=by
 let ⟨L,hL,Q⟩:=Rx.Y8 _ (Rx.lx<|dZ a) (dL _) l.mo;let ⟨out,o1,o2,o3⟩:=aqx (t:=1500) G l.can l.ne l.l9 l.hA hL Q<|λtH hD hd=>(l.ht hD<|Q▸hd).le<|Rx.Mb 1500 (k:=600) T;let ⟨p1,W,p3,p4,p5,p6⟩:=l.aor (ir:=kY) (λq l hq=>(aeB l hq).1) hL Q o2 o3;let ⟨a1,a2⟩:=Um _ (fo kY out) J;refine⟨pY<|fo kY out,⟨λx X=>p4 x<|a1.mem_iff.1 X,by rw[aok a1,p5],a1.symm.pairwise p6 (λl b=>l b.symm),aqh a2⟩,by rw[a1.length_eq];exact W,λx X=>p3 x<|a1.mem_iff.1 X,?_⟩;refine aR Tryz.func87 ?_;have la:=cQ.2 l.ne;have l9:=l.l9;have FG:Z out<=9:=by have h1:=ac8 (L:=L) (Z a) 1;rw[<-o2,cR]at h1;omega
 refine N J<|U<|N J<|y J (λh1=>?_)<|λ_=>aA ?_
 .exfalso;have h1:((Z a:O)==0)=af:=h1;have:=eq_of_beq h1;omega
 refine U<|N J<|y J (λh1=>?_)<|λ_=>aA ?_
 .exfalso;have h1:(Z a:O)>13:=aK h1;omega
 refine w<|rl UT [] J J (s J<|bD J J o1 J<|U<|N J ?_);refine R<|aY (α:=Y) (λi=>⟨[(0,I .q a),(2,.c<|.P 0 0),(5,I UT<|pY<|fo kY<|h i out),(6,I UT out),(7,j i)],[(0,.box 44 0 [.B ah,.V<|.slice none 0 0,.B ah,.V<|.slice none 0 0])],20,[]⟩) (λi=>i<=Z out) (λi=>Z out-i) 0 (be _) (wk ⟨sR J,sR J,sE J J,sR J,sR J,e⟩ ⟨bE J J,e⟩) ?_;intro i hi;refine U<|N J<|y J (λh1=>?_)<|λh1=>?_
 .have h1:i<Z out:=by have h1:(i:O)<(Z out:O):=aK h1;omega
  have o:i+1<=Z out:=h1;have vO:(E out (ae<|(i:O))<|ET.aD UT)=E out i xg:=a8 (λfK=>E out fK xg)<|bW i;let ⟨g1,g2,g3⟩:=p1 (E out i xg) NY;have F:=(aeB g1 g2).2;let ⟨p,C,hC⟩:=aqA (ir:=kY) h1;rw[<-vO]at F p;generalize Ki:kY (E out (ae<|(i:O))<|ET.aD UT).1=us at*;generalize hm:(E out (ae<|(i:O))<|ET.aD UT).2=m at*;have o8:Z us<=8:=by have h3:=W;rw[hC,p,hP,hP,cR]at h3;omega
  refine aA<|U<|R<|w<|rc J J F (s J<|N J ?_) (hp:=aF);refine R<|aY (α:=Y) (λd=>⟨[(0,I .q a),(2,.c<|.P 0 0),(5,I UT<|pY<|fo kY (h i out)++(h d us).map λu=>(u,m)),(6,I UT out),(7,j i),(8,I (.sl .q) us),(9,j d)],[(0,.box 44 0 [.B ah,.V<|.slice none 0 0,.B ah,.V<|.slice none 0 0])],30,[]⟩) (λd=>d<=Z us) (λd=>Z us-d) 0 (be _) (wk ⟨sR J,sR J,sE J ?_,sR J,sR J,sR J,sR J,e⟩ ⟨bR J,e⟩) ?_
  .rw[GK,IL,gO]
  intro d hj;refine U<|N J<|y J (λn=>?_)<|λn=>?_
  .have n:d<Z us:=by have n:(d:O)<(Z us:O):=aK n;omega
   have H:(E us (ae<|(d:O))<|ET.aD<|.sl .q)=us.getD d []:=a8 (λfK=>us.getD fK [])<|bW d;have htk:h (d+1) us=h d us++[us.getD d []]:=by rw[rv,aV,cH n];rfl
   have A:∀r∈fo kY (h i out)++us.map (λu=>(u,m)),EG 20 r:=λr v=>p3 r (by rw[hC,p];exact eh _ v)
   have K:∀r∈fo kY (h i out)++(h d us).map (λu=>(u,m)),EG 20 r:=λr v=>A r (by
    rcases bg.1 v with v|v
    .exact eh _ v
    .obtain⟨u,hu,rfl⟩:=jW.1 v;exact fZ _<|TW (f:=λu=>(u,m))<|BM hu)
   have hlen:Z (fo kY (h i out)++(h d us).map (λu=>(u,m)))<=8:=by have h3:=W;rw[hC,p,hP,hP,cR]at h3;rw[hP,cR,fp];omega
   let ⟨b1,_⟩:=Um _ (fo kY (h i out)++(h d us).map (λu=>(u,m))) J;have g:=apw (pY<|fo kY (h i out)++(h d us).map (λu=>(u,m))) (us.getD d [],m) (by rw[b1.length_eq];omega) (A _<|fZ _<|TW (f:=λu=>(u,m))<|by rw[aV,cH n];exact ru n)<|λr v=>K r<|b1.mem_iff.1 v;have g:al z 142 [I UT (pY<|fo kY (h i out)++(h d us).map (λu=>(u,m))),.a<|av UT (us.getD d [],m)] (I UT<|pY<|fo kY (h i out)++(h (d+1) us).map (λu=>(u,m))):=by rw[htk,fe,<-kF,hJ,IL,aeo];exact g
   have g:al z 142 [I UT (pY<|fo kY (h i out)++(h d us).map (λu=>(u,m))),.a<|av UT (E us (ae<|(d:O))<|ET.aD<|.sl .q,(E out (ae<|(i:O))<|ET.aD UT).2)] (I UT<|pY<|fo kY (h i out)++(h (d+1) us).map (λu=>(u,m))):=by rw[H,hm];exact g
   refine aA<|U<|R<|bT<|rc J J g (s J<|aX<|rt J (hp:=aF)<|aG (d+1) n (G:Z us-(d+1)<Z us-d) aH) (hp:=aF)
  .have n:d=Z us:=by have n:¬(d:O)<(Z us:O):=aT n;omega
   subst n;rw[fv,<-p];exact a6<|aX<|rt J (hp:=aF)<|aG (i+1) o (G:Z out-(i+1)<Z out-i) aH
 .have h1:i=Z out:=by have h1:¬(i:O)<(Z out:O):=aT h1;omega
  subst h1;rw[fv];refine a6<|aO ?_;refine N J (hp:=aF)<|bQ J ?_;have b:ae ((Z a:O)-1)=Z a-1:=G;show AV.t [(af,av .q<|E a (ae<|(Z a:O)-1) 0),(ah,[C.S UT (pY<|fo kY out)]),(ah,[.I .i64 0])]=_;rw[b]
def N6:V (V D×O)->Bool
 |[x]=>x.2==1
 |_=>ah
def aqD{a}(c:Z a≠1):N6 a=ah:=by
 match a with
 |[]=>rfl
 |[x]=>exact absurd J c
 |x::y::l=>rfl
def aqE{a:V D}{c:V (V D×O)}{d:D}(f:al z 87 [I .q a] (.t [(af,av .q d),(ah,[.S UT c]),(ah,[.I .i64 0])])):al z 33 [I .q a] (cB<|N6 c):=by
 refine aR Tryz.func33 ?_;refine N J<|bD J J f J<|w<|rg 14 J J (λ_=>rg 19 J J (λh=>?_)<|λh=>?_)<|λh=>er
 .have h:(Z c:O)=1:=eq_of_beq h;obtain⟨x,rfl⟩:=List.length_eq_one_iff.1 (G:Z c=1);exact s J<|bQ J J
 .have h:(Z c:O)≠1:=nf h;exact s J<|bQ J<|a8 cB (aqD G).symm
def aqF{a}(c:bS a):eV a=a:=tm (lV a) c<|rZ a
structure BC(l:V O):Prop where
 l4:l.length<=4
 sm:∀x∈l,-128<=x/\x<=127
def Uq(l:V O):E (l++[1]) (Z l) 0=1:=by simp[aV]
def Ur l:bS ((l++[1]).map iQ):=ac9 (n:=Z l) ay<|Uq l
def aeC{l}(d:BC l) i:∃c:O,aC c<=128/\E ((l++[1]).map iQ) i 0=(c:D):=by
 have:=Bu (l++[1]) i;rw[gx]at this;refine⟨_,?_,this⟩;rw[aV];cases hx:(l++[1])[i]? with
 |none=>decide
 |some x=>
  have a:=KD hx
  rcases bg.1 a with a|a
  .have:=d.sm x a;show aC x<=128;omega
  .have:x=1:=by simpa using a
   subst this;decide
def aeD{l}(a:BC l):Ht (2^7) (lx<|(l++[1]).map iQ):=⟨1,T,T,λi=>by let ⟨z,c,h2⟩:=aeC a i;exact⟨z,c,by rw[gx,h2];exact qP _⟩⟩
def aqG{l}(a:BC l) i:QS 1 (E ((l++[1]).map iQ) i 0):=(aeD a).qs (nn T) i
def aeE l(a:BC l):uM (l++[1]) 4=(l++[1]).map iQ:=by rw[uM,iK (by rw[hP,qB];have:=a.l4;omega),aqF<|Ur l]
structure gD(m:V D):Prop where
 can:bS m
 top:m.getD (m.length-1) 0=1
 l2:2<=m.length
 l5:m.length<=5
 fW:br (lx m)
 ht:Ht (2^7) (lx m)
def gD.of{l}(a:BC l)(c:l≠[])(d:br (lx<|(l++[1]).map iQ)):gD ((l++[1]).map iQ):=by have f:=cQ.2 c;have g:=a.l4;refine⟨Ur l,?_,bX,bX,d,aeD a⟩;have:=Bu (l++[1])<|Z l;rw[gx,Uq]at this;rw[cR,hP,qB,dE,this];rfl
def aqH{a}{c}(f:acW a c)(g:E a (Z a-1) 0=1)(m:bS a)(i:a≠[])(d:N6 c=af):br (lx a):=by
 match c,d with
 |[x],d=>
  have k:x.2=1:=eq_of_beq d
  have e:=f.prod
  let ⟨_,i2,_⟩:=f.ok x ay
  rw[gC,gC,k,Rx.mul_one]at e
  have l:lx (dZ a)=lx a:=by rw[yx i,g,show(1:D)⁻¹ =1 by decide+kernel,nS,Rx.one_mul]
  rw[l,show ae (1:O)=1 from J,qQ]at e
  rw[<-e];exact i2
def aqI{l}(h:BC l):∃v:Bool,al z 32 [I .q ((l++[1]).map iQ)] (cB v)/\(v=af->l≠[]/\br (lx<|(l++[1]).map iQ)):=by
 have C:=h.l4;have c:Z ((l++[1]).map iQ)=Z l+1:=ay;have a:E ((l++[1]).map iQ) (Z ((l++[1]).map iQ)-1) 0=1:=by have:=Bu (l++[1])<|Z l;rw[gx,Uq]at this;rw[c,dE,this];rfl
 have n:=Ur l;have p:=aqG h;have r:=aeC h;generalize hm:(l++[1]).map iQ=m at*;have x:m≠[]:=λe=>by subst e;cases c
 have t:=ad1 (k:=1) T m G (by rw[a];decide) p x;by_cases B:l=[]
 .refine⟨ah,?_,λe=>uX⟩;subst B;refine aR Tryz.func32 ?_;refine N J<|U<|w<|rc J J t<|rg 6 J J (λh=>er)<|λ_=>?_;refine rg 11 J J (λ_=>s J<|y J (λ_=>N J<|bI<|cA<|atR J)<|λh=>er)<|λg=>?_;have g:¬(Z m:O)<2:=aT g;rw[m7]at c;exact absurd g G
 have H:=cQ.2 B;have F:nz m:=aoH n x G (D:=1) T T λi=>by let ⟨K,L,g⟩:=r i;exact⟨K,cj L T,by rw[g];exact qP _⟩
 let ⟨fs,f1,_,_,f4⟩:=aqB F;have u:=aqE f4;refine⟨N6 fs,?_,λM=>⟨B,aqH f1 a n x M⟩⟩;have d:=Md m x G;rw[a]at d;have f:=YL (k:=1) (1:D) 1 (by have:=p<|Z m-1;rwa[a]at this) T;rw[rV J]at f;have P:=x8 1 T T;refine aR Tryz.func32 ?_;refine N J<|U<|w<|rc J J t<|rg 6 J J (λh=>er)<|λ_=>?_;refine rg 11 J J (λg=>?_)<|λg=>?_
 .have g:(Z m:O)<2:=aK g;exact absurd g G
 refine s J<|y J (λA=>?_)<|λA=>aA ?_
 .have A:(Z m:O)>9:=aK A;exact absurd A G
 exact w<|rc J J d<|rc J J P<|rc J J f<|rg 20 J J (λ_=>gK J J J J J u<|s J<|cx J)<|λh=>er
def bc.get_at{g:Gh}:∀{d:V C}{vs:V Value}{j:Y}{c:C},bc g d vs->d[j]? =ad c->∃v,da g c v
 |[],_,_,_,_,a=>by cases a
 |_::_,_,0,_,⟨v,_,_,f,_⟩,a=>by cases a;exact⟨v,f⟩
 |_::_,_,j+1,_,⟨_,_,_,_,h2⟩,a=>bc.get_at (j:=j) h2 a
def aeF{P}{n}{Q}(t r:Y){f}{xs}{d}{c}{i}{mem}{l}{m}(hl:o t i=ad (.a d))(u:d[r]? =ad (.S f xs))(x:Z xs*f.n<=140737488355328->TR P n c ⟨i,mem,l,m⟩ Q):TR P n c ⟨i,mem,l,m⟩ Q:=by intro F A g W a p;have B:bG g (.a d) (a.tmps.getD t undef):=p.eC t (.a d) zY;let ⟨_,_,h2⟩:=B;let ⟨v,k⟩:=bc.get_at h2 u;have k:da g (.S f xs) v:=k;let ⟨_,_,_,_,C,_⟩:=k;exact x C F A g W a p
def t8(x:O):O:=x.tmod 8
def aqJ x: -7<=t8 x/\t8 x<=7:=by unfold t8;rw[IQ];split<;>omega
def IS:V (V O):=[[-2,0,1],[1,0,1],[-2,0,0,1],[1,1,1],[-1,-1,0,1],[1,0,0,0,1],[1,0,-10,0,1],[-3,1]]
def ze{l c}(f:Z l<=4)(d:∀x∈l,-128<=x/\x<=127)(g:l≠[])(i:c=l++[1])(k:br (lx<|c.map iQ)):gD (uM c 4)/\∀x∈c,-128<=x/\x<=127:=by
 subst i;rw[aeE l ⟨f,d⟩];refine⟨gD.of ⟨f,d⟩ g k,λx a=>?_⟩;rcases bg.1 a with a|a
 .exact d x a
 .have:x=1:=by simpa using a
  subst this;decide
def aqK{i}(a:i<8):gD (uM (IS.getD i []) 4)/\∀x∈IS.getD i [],-128<=x/\x<=127:=by
 have:i=0\/i=1\/i=2\/i=3\/i=4\/i=5\/i=6\/i=7:=G;rcases this with rfl|rfl|rfl|rfl|rfl|rfl|rfl|rfl
 .exact ze (l:=[-2,0]) T T T J aov
 .exact ze (l:=[1,0]) T T T J aow
 .exact ze (l:=[-2,0,0]) T T T J aox
 .exact ze (l:=[1,1]) T T T J aoy
 .exact ze (l:=[-1,-1,0]) T T T J aoz
 .exact ze (l:=[1,0,0,0]) T T T J aoA
 .exact ze (l:=[1,0,-10,0]) T T T J aoB
 .exact ze (l:=[-3]) T T T J aoC
def aqL k(c:V O)(t:0<=k/\k<=255)(hc:∀x∈c,-128<=x/\x<=127):∃m,gD m/\al z 11 [.a [.I .u8 k,.S I8 c]] (I .q m):=by
 have r:BC ((List.take 4 c).map t8):=⟨DW,λx g=>by obtain⟨F,_,rfl⟩:=jW.1 g;have:=aqJ F;omega⟩;let ⟨v,oU,zr⟩:=aqI r;have n:=ZB ((List.take 4 c).map t8++[1]) 4 T (λx g=>by
  rcases bg.1 g with g|g
  .exact r.sm x g
  .have:x=1:=by simpa using g
   subst this;decide)
 rw[aeE _ r]at n;have u:ae ((k.tdiv 2).tmod 8)<8:=by rw[sX t.1,kf G];omega
 let ⟨A,H⟩:=aqK u;have l:=ZB (IS.getD (ae<|(k.tdiv 2).tmod 8) []) 4 T H;obtain⟨m,p⟩:∃m,m=if k.tmod 2=0/\v=af then((List.take 4 c).map t8++[1]).map iQ else uM (IS.getD (ae<|(k.tdiv 2).tmod 8) []) 4:=⟨_,J⟩
 refine⟨m,?_,?_⟩
 .rw[p];split
  .rename_i h;let ⟨K,h2⟩:=zr h.2;exact gD.of r K h2
  .exact A
 clear zr A;generalize ((List.take 4 c).map t8++[1]).map iQ=M at*;refine aR Tryz.func11<|aeF 0 1 J J λB=>?_;have B:Z c*1<=140737488355328:=B;refine N J<|w<|fg I8 [] J J (s J ?_);refine jk ⟨[(1,.c<|.P 0 0),(3,.c<|.X 1000000)],[(1000000,.vec 53 I8<|(List.take 4 c).map t8),(0,.box 24 0 [.I .u8 k,.S I8 c])],10,[]⟩ ?_<|λd=>N J ?_;rotate_left
 .refine R<|aY (α:=Y) (λi=>⟨[(1,.c<|.P 0 0),(3,.c<|.X 1000000),(4,j i)],[(1000000,.vec 53 I8<|(List.take i c).map t8),(0,.box 24 0 [.I .u8 k,.S I8 c])],3,[]⟩) (λi=>i<=Z c/\i<=4) (λi=>Z c-i) 0 ⟨be _,T⟩ aH ?_;rintro i ⟨o,L⟩;refine U (w<|rg 13 J J (λh=>?_)<|λh=>?_)
  .have h:i<Z c:=by have h:(i:O)<(Z c:O):=aK h;omega
   refine s J<|y J (λh2=>?_)<|λh2=>?_
   .have h2:i<4:=by have h2:(i:O)<4:=aK h2;omega
    have f:=HM t8 0 c i h;rw[(NS:E c i 0=E c (ae (i:O)) I8.aD)]at f;refine aA<|U<|R<|bT<|rl I8 [t8 (E c (ae (i:O)) I8.aD)] J J (ra J J J J J J J J J ?_ ?_<|s J ?_) (hp:=aF)
    .show(_+1+(_+1)/4+192)*1<=_;simp only[cR,fp];omega
    .show(_+1)*1<=_;simp only[cR,fp];omega
    .refine aX (rt J (hp:=aF)<|aG (i+1) ⟨h,h2⟩ (G:Z c-(i+1)<Z c-i)<|Wk.trans (wk (st':=⟨[(1,.c<|.P 0 0),(3,.c<|.X 4008000),(4,j ((i+1:Y):O))],[(4008000,.vec 53 I8<|(List.take (i+1) c).map t8),(0,.box 24 0 [.I .u8 k,.S I8 c])],6,[]⟩) ⟨sR J,sR J,sE J ?_,oo⟩ ⟨bE J ?_,bR J,oo⟩)<|Wk.trans (fa 1000000 4008000 J J J) aH)
     .rfl
     .rw[f]
   .have h2:i=4:=by have h2:¬(i:O)<4:=aT h2;omega
    subst h2;exact a6<|dM d aH
  .have h:i=Z c:=by have h:¬(i:O)<(Z c:O):=aT h;omega
   refine s J<|y J (λh2=>oz)<|λ_=>?_;have e:List.take i c=List.take 4 c:=by rw[iK G,iK G]
   exact a6<|dM d<|wk (bJ J) ⟨⟨_,J,kL.of_eq uA⟩,bR J,oo⟩
 refine w<|rl I8 [1] J J (ra J J J J J J J J J ?_ ?_<|s J ?_)
 .show(_+1+(_+1)/4+192)*1<=_;simp only[cR,fp];omega
 .show(_+1)*1<=_;simp only[cR,fp];omega
 refine c6 10002000 J J J ?_;refine w<|rc J J n<|s J ?_;refine aiV (λ_:Unit=>⟨[(1,.c<|.P 0 0)],[(0,.box 24 0 [.I .u8 k,.S I8 c])],20,[]⟩) (λ_=>¬(k.tmod 2=0/\v=af)) (λ_ Q=>?_)<|λd=>w<|rg 37 J J (λh=>?_)<|λh=>?_;rotate_left
 .have h:k.tmod 2=0:=eq_of_beq h;refine gK J J J J J oU<|s J ?_;cases v with
  |true=>
   rw[aq ⟨h,J⟩]at p
   exact y J (λ_=>N J<|bI<|cA<|dR J<|by rw[p])<|λh=>er
  |false=>exact y J (λh=>er)<|λ_=>cZ<|dM (d ()<|λh=>by cases h.2) aH
 .have h:k.tmod 2≠0:=ne_of_beq_false h;exact s J<|y J (λh=>er)<|λ_=>cZ<|dM (d ()<|λW=>h W.1) aH
 refine w<|rl I8 [-2,0,1] J J (rl I8 [1,0,1] J J (rl I8 [-2,0,0,1] J J (rl I8 [1,1,1] J J (rl I8 [-1,-1,0,1] J J (rl I8 [1,0,0,0,1] J J (rl I8 [1,0,-10,0,1] J J (rl I8 [-3,1] J J (rl (.sl I8) IS J J<|s J ?_))))))));rw[b Q]at p;rw[<-p]at l;have C:IntKind.u8.wrap (k.tdiv 2)=k.tdiv 2:=by rw[sX t.1];simp only[IntKind.wrap,IntKind.bits,IntKind.signed];simp;omega
 rw[<-C]at l;refine w<|rc J J l (s J<|cx J) (hp:=?_);have D:0<=(k.tdiv 2).tmod 8:=by rw[sX t.1,kf G];omega
 simp only[Pr.an,Pr.h,num,fR,true_and,and_true];rw[C];show(2≠0/\8≠0)/\0<=(k.tdiv 2).tmod 8/\(k.tdiv 2).tmod 8<8;omega
def aeG{m:V D}(f:2<=Z m)(g:Z m<=5)(x:V (O×O×O))(a:∀c∈x,nq c):al z 12 [I RW x,I .q m] (I .q<|yB x<|Z m-2):=by
 refine aR Tryz.func12 ?_;have h:=aoF x (Z m-2) G a;have e:((Z m:O)-2)=((Z m-2:Y):O):=G;have d:al z 28 [I RW x,j<|(Z m:O)-2] (I .q<|yB x<|Z m-2):=by rw[e];exact h
 exact N J<|w<|rc J J d (s J<|cx J) (hp:=aF)
end Go.El
namespace Go.El
open Go Go.Proofs Go.RowKit
noncomputable def N7{a:Type}(n:Y)(f:Y->a):a:=Nat.rec (motive:=λ_=>a) (f 0) (λk _=>f<|Nat.add k 1) n
def Us{a:Type} n(f:Y->a):N7 n f=f n:=by cases n<;>rfl
noncomputable def Ut{a:Type}(x:O)(f:O->a):a:=Int.rec (motive:=λ_=>a) (λn=>N7 n<|λm=>f<|Uu m) (λn=>f<|Int.negSucc n) x
def aqM{a:Type} x(f:O->a):Ut x f=f x:=by
 cases x with
 |ofNat n=>exact Us n<|λm=>f<|Uu m
 |negSucc n=>rfl
noncomputable def IT{a:Type}(l:V O):(V O->a)->a:=List.rec (motive:=λ_=>(V O->a)->a) (λf=>f []) (λx _ c f=>Ut x<|λy=>c<|λt=>f<|y::t) l
def N8{a:Type}:∀(l:V O)(f:V O->a),IT l f=f l
 |[],_=>rfl
 |x::l,f=>by show Ut x (λc=>IT l<|λt=>f<|c::t)=_;rw[aqM,N8 l]
def Uv:V C->aw (V O)
 |[]=>ad []
 | .I .u64 n::r=>(match Uv r with
  |some l=>ad<|n::l
  |none=>none)
 |_=>none
noncomputable def N9(a:Ms):C->aw (V O)
 | .S (.int .u64) xs=>ad xs
 | .V (.slice none 0 0)=>ad []
 | .L id off len _=>(match bu id a with
  |some (.box _ _ cs)=>Uv<|(az off cs).take len
  |some (.fz _ cs)=>Uv<|(az off cs).take len
  |_=>none)
 |_=>none
def BD(p x:O):Bool:=decide (0<=x)&&decide (x<p)
def Uw(p:O)(l:V O):Bool:=l.all<|BD p
def aeH{p}(a:0<p){l}(c:Uw p l=af):rp p l:=by
 intro i;rw[aV];cases hl:l[i]? with
 |none=>exact⟨eO _,a⟩
 |some x=>
  have:=mq.1 c x<|KD hl
  simp only[BD,cr,decide_eq_true_eq]at this
  exact this
noncomputable def aeI:V AV->aw (V AV×AV)
 |[.c (.I .u64 a),.c<|.I .u64 n,.c<|.I .u64 p]=>(match BD 18446744073709551616 a&&BD 18446744073709551616 n&&decide (0<p)&&decide (p<=4294967296)with
  |true=>N7 (s8 (ae a) (ae n)<|ae p)<|λr=>ad ([cU a,cU n,cU p],cU<|Uu r)
  |false=>none)
 |_=>none
noncomputable def aeJ:V AV->aw (V AV×AV)
 |[.c (.I .u64 a),.c<|.I .u64 p]=>(match BD p a&&decide (a≠0)&&decide (2<=p)&&decide (p<=2147483648)with
  |true=>N7 (iq (ae a)<|ae p)<|λr=>ad ([cU a,cU p],.t [(ah,[.I .u64 (Uu r)]),(ah,[.I .i64 0])])
  |false=>none)
 |_=>none
def sk(a c:V O)(p:O):Bool:=Nat.ble (Z a) 1000&&Nat.ble (Z c) 1000&&decide (2<=p)&&decide (p<=2147483648)&&Uw p a&&Uw p c
noncomputable def aeK(d:Ms):V AV->aw (V AV×AV)
 |[.a [x,.I .u64 p],.a [f,.I .u64 g]]=>(match N9 d x,N9 d f with
  |some a,ad c=>(match decide (p=g)&&sk a c p with
   |true=>IT (cG a c p)<|λl=>ad ([aP a p,aP c p],aP l p)
   |false=>none)
  |_,_=>none)
 |_=>none
noncomputable def aeL(d:Ms):V AV->aw (V AV×AV)
 |[.a [x,.I .u64 p],.a [f,.I .u64 g]]=>(match N9 d x,N9 d f with
  |some a,ad c=>(match decide (p=g)&&sk a c p&& !a.isEmpty&& !c.isEmpty&&decide (List.getD c (Z c-1) 0≠0)with
   |true=>IT (aU a c p).1<|λl=>IT (aU a c p).2<|λr=>ad ([aP a p,aP c p],.t [(af,[.S au l,.I .u64 p]),(af,[.S au r,.I .u64 p])])
   |false=>none)
  |_,_=>none)
 |_=>none
noncomputable def Ux(f:FuncId)(vs:V AV)(a:Ms):aw (V AV×AV):=
 match gR f 301 with
 |true=>aeI vs
 |false=>(match gR f 291 with
  |true=>aeJ vs
  |false=>(match gR f 292 with
   |true=>aeK a vs
   |false=>(match gR f 264 with
    |true=>aeL a vs
    |false=>none)))
def aeM{a c}{p}(d:sk a c p=af):Z a<=1000/\Z c<=1000/\2<=p/\p<=2147483648/\rp p a/\rp p c:=by simp only[sk,cr,decide_eq_true_eq]at d;let ⟨⟨⟨⟨⟨f,h2⟩,g⟩,i⟩,k⟩,l⟩:=d;exact⟨dc f,dc h2,g,i,aeH G k,aeH G l⟩
def aqN:∀f vs t d r,Ux f vs t=ad (d,r)->al z f d r:=by
 intro f vs t d r h;unfold Ux at h;split at h
 .rename_i g;rw[kO g];unfold aeI at h;split at h
  .rename_i a n p;split at h
   .rename_i c;simp only[cr,BD,decide_eq_true_eq]at c;rw[Us]at h;cases h;have:=XW (ae a) (ae n) (ae p) G G G G;rwa[ui (by omega:0<=a),ui (by omega:0<=n),ui (by omega:0<=p)]at this
   .cases h
  .cases h
 .split at h
  .rename_i g;rw[kO g];unfold aeJ at h;split at h
   .rename_i a p;split at h
    .rename_i c;simp only[cr,BD,decide_eq_true_eq]at c;rw[Us]at h;cases h;exact X3 a p G G G G
    .cases h
   .cases h
  .split at h
   .rename_i g;rw[kO g];unfold aeK at h;split at h
    .rename_i x p y q;split at h
     .rename_i a b _ _;split at h
      .rename_i c;simp only[cr]at c;let ⟨i,h2,u,k,l,m⟩:=aeM c.2;rw[N8]at h;cases h;exact ajq a b p i h2 G k l m
      .cases h
     .cases h
    .cases h
   .split at h
    .rename_i g;rw[kO g];unfold aeL at h;split at h
     .rename_i x p y q;split at h
      .rename_i a b _ _;split at h
       .rename_i c;simp only[cr,decide_eq_true_eq]at c;let ⟨⟨⟨⟨_,c⟩,A⟩,v⟩,hl⟩:=c;let ⟨i,h2,u,k,l,m⟩:=aeM c;rw[N8,N8]at h;cases h;cases a with
        |nil=>simp at A
        |cons x B=>exact aju x B b p J i h2 u k l m (by intro e;rw[e]at v;simp at v) hl
       .cases h
      .cases h
     .cases h
    .cases h
abbrev Cl:=FuncId×V AV×AV
noncomputable def EK(l:V Cl)(f:FuncId)(vs:V AV)(a:Ms):aw (V AV×AV):=List.rec (motive:=λ_=>aw<|V AV×AV) (Ux f vs a)
 (λe _ c=>match gR f e.1 with
  |true=>(match qZ (λd=>bu d a) vs e.2.1 with
   |true=>ad (e.2.1,e.2.2)
   |false=>c)
  |false=>c) l
def N':V Cl->Prop
 |[]=>True
 |a::r=>al z a.1 a.2.1 a.2.2/\N' r
def Oa:∀{l:V Cl},N' l->∀f vs c a r,EK l f vs c=ad (a,r)->al z f a r
 |[],_,f,vs,c,a,r,i=>aqN f vs c a r i
 |g::l,hl,f,vs,c,a,r,i=>by
  have d:(match gR f g.1 with
   |true=>(match qZ (λm=>bu m c) vs g.2.1 with
    |true=>ad (g.2.1,g.2.2)
    |false=>EK l f vs c)
   |false=>EK l f vs c)=ad (a,r):=i
  split at d
  .rename_i k;have k:=kO k;split at d
   .simp only[ar,bK]at d;obtain⟨rfl,rfl⟩:=d;rw[k];exact hl.1
   .exact Oa hl.2 f vs c a r d
  .exact Oa hl.2 f vs c a r d
def fO{l}(c:N' l){f}{vs}{a}(d:abO a (sd z dK (EK l) (ia z dK (EK l) 100000) f vs [] 0)=af)(g:cY vs=[])(i:a.ak=[]):al z f vs a:=
 amV MX cq (Oa c) 100000 d g i
def Ob{l}(c:N' l){f}{vs}{a}(d:Tw z dK (EK l) 100000 200 200 f vs a=af)(g:cY vs=[])(i:a.ak=[]):al z f vs a:=
 anT MX cq (Oa c) 100000 200 200 d g i
def qI(n:O):D:=Rat.ofInt n
abbrev uP(l:V D):AV:= .c<|.S .q l
abbrev zP(l:V O):AV:= .c<|.S .z l
abbrev nZ(l:V (V O)):AV:= .c<|.S (.sl .z) l
abbrev pL(l:V (V O×O)):AV:= .c<|.S (.pr (.sl au) au) l
abbrev PQ:O:=1073741827
open Rx
def n5(a c:V D):Y->V D
 |0=>List.replicate (Z a+Z c-1) 0
 |i+1=>iV (n5 a c i) (E a i 0) c i
def Uy(a c:V D):∀i,Z (n5 a c i)=Z a+Z c-1
 |0=>fE
 |i+1=>by rw[n5,iV,mI,Uy a c i]
def aqO a i:lx (h (i+1) a)=lx (h i a)+K (E a i 0)*X i:=ext λj=>by
 rw[eI,fV,DO,gx,gx,DT,DT];by_cases c:j=i
 .subst c;rw[aq G,b G,aq J];grind
 .rw[b c];by_cases h2:j<i
  .rw[aq G,aq h2];grind
  .rw[b G,b h2];grind
def Uz{a c:V D}:∀i,i<=Z a->lx (n5 a c i)=lx (h i a)*lx c
 |0,_=>by rw[n5,GK,pJ,Rx.zero_mul];exact ext λi=>He _ i
 |i+1,d=>by rw[n5,Hz _ (by rw[Uy];omega),Uz i G,aqO,Rx.add_mul,Rx.mul_assoc]
def aqP a c:eV (n5 a c<|Z a)=ml a c:=tm (lV _) (DV a c) (by rw[rZ,Uz _<|a7 _,fv,HK])
def aqQ{n m t u l}{a d}(r:Pz n t a)(v:Pz m u d)(M:n<=16)(P:m<=400)(x:t+u+4<32*l)(Q:l<=100000000):al z 67 [I .q a,I .q d] (I .q<|ml a d):=by
 refine aR Tryz.func67 ?_;have S:=r.len;have W:=v.len;refine N J<|U<|w<|rg 11 J J (λh=>?_)<|λh=>?_
 .have h:a=[]:=by have h:(a.length:O)=0:=eq_of_beq h;exact fB G
  subst h;rw[Zu];exact s J<|y J (λ_=>N J<|bI<|cA<|gZ cq J<|bf.nil .q)<|λh=>er
 refine s J<|y J (λp=>?_)<|λp=>aA ?_
 .have h:d=[]:=by have h:(d.length:O)=0:=eq_of_beq p;exact fB G
  subst h;rw[Zv];exact N J<|bI<|cA<|gZ cq J<|bf.nil .q
 have o:0<a.length:=by have h:(((a.length:Y):O)==0)=ah:=h;rw[beq_eq_false_iff_ne]at h;omega
 have E:0<d.length:=by have h:(((d.length:Y):O)==0)=ah:=p;rw[beq_eq_false_iff_ne]at h;omega
 clear h p;have B:nO z 118 [j ((a.length:O)+(d.length:O)-1)] 44 .q (List.replicate (a.length+d.length-1) 0):=by rw[(G:(a.length:O)+(d.length:O)-1=((a.length+d.length-1:Y):O))];exact LP _ G
 refine w<|Ai J J B (s J<|U<|N J ?_) (hp:=aF);refine R<|aY (α:=Y) (λi=>⟨[(1,I .q d),(5,.c<|.X 2006000),(23,I .q a),(24,j a.length),(25,j i)],[(2006000,.vec 44 .q<|n5 a d i)],4,[]⟩) (λi=>i<=a.length) (λi=>a.length-i) 0 (be _) (wk (bJ J) ⟨bE J J,e⟩) ?_;intro i C;have F:=Uy a d i;have H:∀f,QS l ((n5 a d i).getD f 0):=λf=>by
  have K:Ht (2^(t+u+4)) (lx<|n5 a d i):=by rw[Uz i C,<-Mk];let ⟨D,d1,d2,d3⟩:=r.ht;refine Ht.mul (n:=2^4) ⟨D,d1,d2,d3.take i⟩ v.ht ?_ T;have:=L1<|a.take i;rw[fp]at this;omega
  exact K.qs (nn x) f
 refine N J<|U<|y J (λh=>?_)<|λh=>?_
 .have h:i<a.length:=by have h:(i:O)<(a.length:O):=aK h;omega
  have g:=LQ (s:=l) G (n5 a d i) (a.getD i 0) d i G G H (r.qs G i)<|λf=>v.qs G f;have L:((i:O)).toNat=i:=bW i;rw[show iV (n5 a d i) (a.getD i 0) d i=n5 a d (i+1)from J]at g;have k:sW z 119 [.c (.X 0),aQ<|a.getD ((i:O)).toNat 0,I .q d,j i] 44 .q (n5 a d i) (.t []) (n5 a d<|i+1):=by rw[L];exact g
  refine aA<|U<|R<|N J (bT<|xZ 2006000 J k J J<|s J<|aX<|rt J (hp:=aF)<|aG (i+1) h (G:a.length-(i+1)<a.length-i)<|wk ⟨sR J,sR J,sR J,sR J,sE J ?_,e⟩ ⟨bR J,e⟩) (hp:=aF);exact im (G:(i:O)+1=((i+1:Y):O))
 .have h:i=a.length:=by have h:¬(i:O)<(a.length:O):=aT h;omega
  subst h;have A:=Hc (n5 a d a.length) G;rw[aqP]at A;exact a6<|aO<|c6 2006000 J J J<|bD J J A J<|cx J
def aqR:al z 106 [I .q [],I .q []] (I .q []):=fO (l:=[]) e dD J J
def aqS a c:eV (yo a 1 c)=jz a c:=tm (lV _) (lV _) (by rw[rZ,akx,HD,nS,Rx.one_mul])
def aqT{f}(g:1<=f)(l:f<=1000000000) a c(m:Z a<=1000)(n:Z c<=1000)(p:∀i,QS f (E a i 0))(r:∀i,QS f (E c i 0)):al z 106 [I .q a,I .q c] (I .q<|jz a c):=by
 by_cases h:0<max (Z a) (Z c)
 .rw[<-aqS];refine aR Tryz.func106 ?_;have k:=YB 1 T T;have d:=akc g l a (((1:O)):D) c m n h p (QS.int g T) r;rw[show(((1:O)):D)=1 from J]at d k;exact N J<|w<|rc J J k<|rc J J d<|s J<|cx J
 .have t:a=[]:=fB G;have u:c=[]:=fB G;subst t u;exact aqR
def Pz.aqU{n m t u s}{a c}(d:Pz n t a)(f:Pz m u c)(k:n<=500)(l:m<=500)(g:t<32*s)(i:u<32*s)(p:s<=100000000):al z 106 [I .q a,I .q c] (I .q<|jz a c):=
 aqT G G a c (cj d.len G) (cj f.len G) (d.qs g) (f.qs i)
def aqV c a:eV (tf c a)=iX c a:=tm (lV _) (lV _) (by rw[rZ,Zb,HE])
def Pz.aqW{n t d}{a}{c}(f:Pz n t a)(g:QS d c)(k:n<=500)(i:t<32*d)(l:d<=100000000):al z 75 [aQ c,I .q a] (I .q<|iX c a):=by rw[<-aqV];exact akb G G c a (cj f.len G) g<|f.qs i
def aqX{g}(i:1<=g)(k:g<=100000000){a d}(l:d≠[])(f:AL g a d):al z 65 [I .q a,I .q d] (.t [(ah,[.S .q (iF a d)]),(ah,[.S .q (eY a d)]),(ah,[.I .i64 0])]):=by
 have m:=cQ.2 l;have n:=f.la;have p:=f.lb;by_cases c:Z a<Z d
 .rw[eY,iF,aq c,aq c];exact akg a d c G
 .rw[eY,iF,b c,b c];exact akf i k a d (Z d-1) (Z a+1-Z d) G G G G f.bn f.qb f.qS
def Pz.aqY{n m t u d f}{a c}(i:Pz n t a)(k:Pz m u c)(g:c≠[])(l:Z a+1-Z c<=d)(p:n<=500)(r:m<=500)(v:t+u+(u+1)*d<32*f)(x:f<=100000000):al z 65 [I .q a,I .q c] (.t [(ah,[.S .q (iF a c)]),(ah,[.S .q (eY a c)]),(ah,[.I .i64 0])]):=
 aqX G x g (i.RZ k g l p r v)
def Pz.aeN{n m t u d s}{a c}(f:Pz n t a)(g:Pz m u c)(i:c≠[])(k:Z a+1-Z c<=d)(l:n<=500)(p:m<=500)(r:t+u+(u+1)*d<32*s)(v:s<=100000000):al z 17 [I .q a,I .q c] (I .q<|eY a c):=by refine aR Tryz.func17 ?_;exact N J<|w<|rc J J (f.aqY g i k l p r v)<|re J<|N J<|cx J
def fm(a c m:V D):V D:=eY (ml a c) m
def Pz.aqZ{n m k t u v d s}{a f c}(g:Pz n t a)(i:Pz m u f)(r:Pz k v c)(c0:c≠[])(l:n<=16)(x:m<=400)(F:k<=400)(H:Z a+Z f-1+1-Z c<=d)(A:t+u+4+v+(v+1)*d<32*s)(p:s<=100000000):al z 19 [I .q a,I .q f,I .q c] (I .q<|fm a f c):=by refine aR Tryz.func19 ?_;have B:=g.mul i l;have:=RY g.can i.can;have C:=B.aeN r c0 (d:=d) G G G A p;exact N J<|w<|rc J J (aqQ g i l x G p)<|rc J J C<|re J<|cx J
def Pz.fm{n m k t u v d}{a f c}(g:Pz n t a)(i:Pz m u f)(l:Pz k v c)(c0:c≠[])(p:n<=16)(r:Z a+Z f-1+1-Z c<=d):Pz k (t+u+4+(v+1)*d) (El.fm a f c):=by have:=RY g.can i.can;exact(g.mul i p).rem l c0 G
def UA{a b c}(d:bS c)(c0:c≠[]):lx c∣lx (fm a b c)-lx a*lx b:=by rw[<-HK];exact Zx d c0
def Rx.Ht.one{M}(a:1<=M):Ht M (K 1):=⟨1,T,a,λi=>by
 rw[nk];split
 .exact⟨1,a,tq _⟩
 .exact⟨0,be _,fN _⟩⟩
def aq0:lx [1]=1:=Hk 1
def aq1:bS [(1:D)]:= .inr (T:(1:D)≠0)
def aeO n t(a:1<=n):Pz n t [1]:=⟨aq1,a,by rw[Hk];exact Ht.one<|kh T⟩
def aq2{a}{n d}(c:d≠0)(f:aC n<=2^a)(g:aC d<=2^a):Ht (2^a) (K<|Rat.divInt n d):=⟨d,c,g,λi=>by
 rw[nk];split
 .refine⟨n,f,?_⟩;rw[L'];have:=L9 c;rw[ym,DM,oD,nT _ this,tq]
 .exact⟨0,be _,fN _⟩⟩
def Rx.Ht.X1{M}{A}(a:Ht M A):Ht M (X 1*A):=by
 let ⟨D,c,h2,d⟩:=a;refine⟨D,c,h2,λi=>?_⟩;rw[mG];split
 .exact d _
 .exact⟨0,be _,fN _⟩
def aeP{a:Y}:∀{l:V D},(∀x∈l,Ht (2^a) (K x))->Ht (2^((a+1)*Z l)) (lx l)
 |[],_=>by rw[pJ];exact Ht.zero<|kh T
 |c::l,d=>by rw[L0];have f:=(d c ay).add (aeP (a:=a) (l:=l) λx g=>d x<|jT _ g).X1;refine f.le ?_;have:=Mk a ((a+1)*Z l) 1;rw[Nat.pow_one]at this;rw[this,eB,yj,qD];exact fT T G
def aq3{a}{l}{c}(f:∀x∈l,Ht (2^a) (K<|pN x)):Pz (c+1) ((a+1)*(c+1)) (yA l c):=by have d:Z ((h (c+1) l).map pN)<=c+1:=DW;refine⟨lV _,cj (uK _) d,?_⟩;rw[yA,rZ];refine(aeP (a:=a) λx g=>?_).le<|fT T<|jh _ d;obtain⟨y,i,rfl⟩:=jW.1 g;exact f y<|BM i
def aq4{l}{most}(d:∀x∈l,nq x):Pz (most+1) (8*(most+1)) (yB l most):=aq3 (a:=7) λx f=>by
 obtain⟨y,c,rfl⟩:=jW.1 f;have c:=d y c;refine aq2 (ZA<|adf c) ?_ ?_
 .have:yz (wQ y)=y.1:=b (T:¬(0:O)%8=7);rw[this];have:=c.1;omega
 .have:uL (wQ y)=nW y.2.1:=b (T:¬(0:O)%8=6);rw[this];unfold nW;have:=c.2.1;split<;>omega
def gD.pz{m}(a:gD m):Pz 5 7 m:=⟨a.can,a.l5,a.ht⟩
def gD.ne{m}(a:gD m):m≠[]:=λe=>by have:=a.l2;rw[e]at this;cases this
def aeQ{m}(a:gD m){l}(c:∀x∈l,nq x):Pz 4 32 (yB l<|Z m-2)/\Z (yB l<|Z m-2)<Z m:=by have d:=a.l2;have f:=a.l5;have p:=aq4 (most:=Z m-2) c;exact⟨p.le G G,by have:=p.len;omega⟩
def aq5:al z 35 [I .q []] (cB af):=fO (l:=[]) e dD J J
def Pz.aeR{n t k}{a}(c:Pz n t a)(g:n<=1000)(i:t<32*k)(d:k<=1000000000):al z 35 [I .q a] (cB af):=by
 by_cases f:a=[]
 .subst f;exact aq5
 .exact ad1 d a (cj c.len g) (c.can.ne f) (c.qs i) f
def Pz.aq6{n t k}{a}(f:Pz n t a)(c:V D)(g:n<=1000)(i:t<32*k)(d:k<=1000000000):al z 16 [I .q a,I .q c] (cB<|decide<|a=c):=apu d a c (cj f.len g)<|f.qs i
def Pz.IU{n t k}{a c}(f:Pz n t a)(g:a=c)(i:n<=1000)(l:t<32*k)(d:k<=1000000000):al z 16 [I .q a,I .q c] (cB af):=by have:=f.aq6 c i l d;rwa[rV g]at this
def Pz.DJ{n m t u k}{a c}(d:Pz n t a)(f:Pz m u c)(g:n<=1000)(i:m<=1000)(l:t<32*k)(p:u<32*k)(r:k<=100000000000):al z 36 [I .q a,I .q c] (I .q<|jz a c):=
 HB a c (cj d.len g) (cj f.len i) (d.qs l) (f.qs p) r
def Pz.aq7{n m t u k}{a c}(d:Pz n t a)(f:Pz m u c)(g:n<=12)(i:m<=100)(l:t<32*k)(p:u<32*k)(r:k<=100000):al z 34 [I .q a,I .q c] (I .q<|ml a c):=
 akE r a c (cj d.len g) (cj f.len i) (d.qs l) (f.qs p)
def UB{a c m}{t u}(f:gD m)(g:Pz 12 t a)(i:Pz 12 u c)(n:Z a<Z m)(p:Z c<Z m)(r:t+u+200<3200000000):Pz 4 (t+u+28) (fm a c m)/\(fm a c m).length<Z m/\lx m∣lx (fm a c m)-lx a*lx c/\al z 19 [I .q a,I .q c,I .q m] (I .q<|fm a c m):=by have v:=f.l5;have x:=f.l2;have k:=yr (a:=ml a c) f.ne;have l:=Pz.fm g i f.pz f.ne (d:=3) T G;refine⟨⟨l.can,?_,l.ht.le<|fT T G⟩,k,UA f.can f.ne,g.aqZ i f.pz f.ne (d:=3) (s:=100000000) T T T G G T⟩;show(fm a c m).length<=4;have:(fm a c m).length<Z m:=k;omega
end Go.El
namespace Go.El
open Go Go.Proofs Go.RowKit
def qH:D:=⟨1,2,T,T⟩
abbrev mS:V D:=[qI (-2),qI 0,qI 1]
def aq8:al z 17 [uP [qI 0,qI 0,qI 0,qI 1],uP mS] (uP [qI 0,qI 2]):=
 fO (l:=[]) e dD J J
def aq9:al z 19 [uP [qI 1,qI 1],uP [qI (-1),qI 1],uP mS] (uP [qI 1]):=
 fO (l:=[]) e dD J J
def aq':al z 14 [uP [qI 0,qI 1],uP mS] (.t [(ah,[.S .q [qI 0,qH]]),(ah,[.I .i64 0])]):=
 fO (l:=[]) e dD J J
def ara:al z 26 [uP [qI 5],uP mS] (uP [qI (-5),qI 1]):=
 fO (l:=[]) e dD J J
abbrev MO:ET:= .pr mC<|.pr mC<|.pr mC<|.pr mC<|.pr mC<|.pr mC<|.pr mC mC
abbrev TE:ET:= .pr .q MO
abbrev pA:AV:= .c<|.S TE [(qI 1,(2,0,0,0,0,0,0,0)),(qI 1,(0,1,0,0,0,0,0,0))]
abbrev atA:AV:= .a [.S .q [qI 1,qI 1],.S .q [qI 1],.S .q [],.S .q [],.S .q [],.S .q [],.S .q [],.S .q []]
def arb:al z 55 [pA,atA,uP mS] (uP [qI 4,qI 2]):=
 fO (l:=[]) e dD J J
section
variable{P:Program}{tt:TT}{n:Y}
def UC(a:Bool):AV->Bool
 | .c (.B d)=>d== !a
 | .c (.V<|.tuple _)=>af
 |_=>ah
def arc{B}{m}{i}{S:Oper}(ho:m[i]? =ad S){jg}{f}(hg:S.guard=ad (jg,f)){p}(H:nH m.toList jg=ad p){st}{v}(hb:o p st.sl=ad v)(A:UC f v=af)
  {d:Y} (hd:S.dst=ad d):kI P n m i st (st.put d<|.c<|.V undef) B ([.s p],[.s d]):=by
 refine⟨[(.s p,.v v)],[(.s d,ad<|.v<|.c<|.V undef)],?_,?_,oa st d _,λk hk=>JH,λk hk=>je⟩
 .intro F G Q X T g W a K L l I N;have r:=l.eC p v<|I (.s p,.v v) ay;have O:gH S (yielded m a.tmps)=ah:=by
   unfold UC at A;split at A
   .rename_i b;have A:b= !f:=eq_of_beq A;simp only[gH,hg,Cq H r,A];cases f<;>rfl
   .rename_i c;have r:a.tmps.getD p undef= .tuple c:=r;have R:yielded m a.tmps jg=none:=by
     unfold nH at H;unfold yielded;rw[<-Cs];split at H
     .rename_i U q;rw[q];simp only[Option.bind_some,H];rw[nI]at r;cases e:a.tmps[p]? with
      |none=>rfl
      |some x=>rw[e]at r;have r:x= .tuple c:=r;rw[r]
     .cases H
    simp only[gH,hg,R];rfl
   .cases A
  unfold wpOp;simp only[ho,O,gY,bN,hd];refine N g W _<|l.step (chg:=λ_=>False) (g':=g) (W':=W) ⟨⟨cK.refl _,λ_ _=>rfl⟩,λ_ _ _=>rfl,l.sub,a7 _,λ_ _ _=>rfl,J,J,J⟩ _ B L mm l.defers ?_ (λ_ h=>h.elim) ?_ ?_ ?_ ?_
  .intro t ht;have w:d≠t:=qo;simp[Act.put,k7 w]
  .intro t u ht;simp only[aE]at ht;split at ht
   .rename_i e;simp only[ar,Info.v.injEq]at ht;subst ht;have e:t=d:=by first|exact e|exact e.symm|simpa using e| (simp at e;exact e.symm)
    subst e;show(a.put (ad t) undef).tmps.getD t undef=undef;simp only[Act.put,nI];by_cases D:t<a.tmps.size
    .simp[Array.getElem?_setIfInBounds_self_of_lt D]
    .rw[OK (by simpa using D)];rfl
   .simp at ht
  .intro E b ht;simp[aE]at ht
  .intro k y ht;simp only[aE]at ht;split at ht
   .simp only[ar]at ht;subst ht;intro E z;simp[Info.ak,AV.ak,C.ak]at z
   .simp at ht
  .intro E y ht;simp[aE]at ht
 .intro Z M;simp only[gI]at M;subst M;simp[St.kn,hb]
def IV(a:Bool)(f:V Oper):Y->V Oper->Y->V (Y×AV)->V Ks->aw (V Oper×Y×V (Y×AV)×V Ks)
 |0,os,i,sl,g=>ad (os,i,sl,g)
 |k+1,os,i,sl,g=>match os with
  |m::l=>(match m.guard,m.dst with
   |some (r,want),ad d=>(match nH f r with
    |some p=>(match o p sl with
     |some v=>if UC want v then IV a f k l (i+1) ((d,.c<|.V undef)::sl) (gJ a g ([.s p],[.s d]))else none
     |none=>none)
    |none=>none)
   |_,_=>none)
  |[]=>none
def aeT{f:Array Oper}{c:Bool}{H:Y}{mem:V (Y×aN)}{t:Y}{u:V (Y×Bool)}{Q:St->Prop}:∀(k:Y)(x:V Oper)(i:Y)(p:V (Y×AV))(A:V Ks){g:V Oper}{B:Y}{l:V (Y×AV)}{m:V Ks},
  IV c f.toList k x i p A=ad (g,B,l,m)->RG P n f c H B g ⟨l,mem,t,u⟩ m Q->RG P n f c H i x ⟨p,mem,t,u⟩ A Q
 |0,_,_,_,_,_,_,_,_,a,F=>by simp only[IV,ar,bK]at a;obtain⟨rfl,rfl,rfl,rfl⟩:=a;exact F
 |k+1,x,i,p,A,g,B,l,m,a,F=>by
  unfold IV at a;split at a
  .rename_i o r;split at a
   .rename_i j C d K L;split at a
    .rename_i b M;split at a
     .rename_i v S;split at a
      .rename_i W;exact mu (λX=>arc X K M (st:=⟨p,mem,t,u⟩) S W L)<|mz<|aeT k r (i+1) _ _ a F
      .cases a
     .cases a
    .cases a
   .cases a
  .cases a
end
section
variable{n:Y}{sl cu:V (Y×AV)}{mem cv:V (Y×aN)}{nx:Y}{gd cJ:V (Y×Bool)}{ops:Array Oper}{draw:Bool}{p:Pr}{ks dJ:V Ks}{i i' n0 cM:Y}
variable{R:St->Prop}{os:V Oper}{d t:Y}{ty:TypeId}{pos:String}{iS:Array Edge}{dX:V Oper}
def rsk k{a}{c}{f}{g}(l:IV draw ops.toList k os i sl ks=ad (f,g,a,c))(m:RG z n ops draw nx g f ⟨a,mem,n0,gd⟩ c R):RG z n ops draw nx i os ⟨sl,mem,n0,gd⟩ ks R:=aeT k os i sl ks l m
end
def mx(x:MO.den):Y->O
 |0=>x.1|1=>x.2.1|2=>x.2.2.1|3=>x.2.2.2.1|4=>x.2.2.2.2.1|5=>x.2.2.2.2.2.1|6=>x.2.2.2.2.2.2.1|_=>x.2.2.2.2.2.2.2
abbrev aM(x:MO.den):AV:= .a<|av MO x
def are{x c:MO.den}(a:∀d,d<8->mx x d=mx c d):x=c:=by obtain⟨r,t,u,v,A,B,C,F⟩:=x;obtain⟨H,K,L,M,P,Q,S,W⟩:=c;have f:=a 0 T;have g:=a 1 T;have i:=a 2 T;have k:=a 3 T;have l:=a 4 T;have m:=a 5 T;have n:=a 6 T;have p:=a 7 T;simp only[mx]at f g i k l m n p;subst f g i k l m n p;rfl
def rk{i}(a:i<8):i=0\/i=1\/i=2\/i=3\/i=4\/i=5\/i=6\/i=7:=G
def IW(x a:MO.den):Y->Y->O
 |0,_=>0
 |n+1,i=>if mx x i<mx a i then-1 else if mx x i>mx a i then 1 else IW x a n (i+1)
def aeU{x d:MO.den}:∀{n i:Y},IW x d n i=0->∀a,i<=a->a<i+n->mx x a=mx d a
 |0,i,_,a,f,h2=>absurd h2 G
 |n+1,i,c,a,f,h2=>by
  unfold IW at c;split at c
  .cases c
  .split at c
   .cases c
   .by_cases g:a=i
    .subst g;omega
    .exact aeU c a G G
abbrev pZ(x a:MO.den):O:=IW x a 8 0
def arf{x a:MO.den}(c:pZ x a=0):x=a:=are λj d=>aeU c j (be _) G
def arh(x g:MO.den):al z 107 [aM x,aM g] (j<|pZ x g):=by
 refine aR Tryz.func107 ?_;refine N J<|U<|N J<|R<|aY (α:=Y) (λi=>⟨[(2,.c<|.P 0 0),(3,.c<|.P 1000 0),(5,j i)],[(1000,.box 127 0<|av MO g),(0,.box 127 0<|av MO x)],3,[]⟩) (λi=>i<=8/\IW x g (8-i) i=pZ x g) (λi=>8-i) 0 ⟨T,J⟩ aH ?_;rintro i ⟨k,hc⟩;refine U<|N J<|y J (λa=>?_)<|λa=>?_
 .have a:i<8:=by have a:(i:O)<8:=aK a;omega
  rcases rk a with rfl|rfl|rfl|rfl|rfl|rfl|rfl|rfl;all_goals
   refine aA<|U<|R<|U<|N J<|y J (λd=>?_)<|λd=>aA ?_
   .have d:=aK d;refine N J<|bI ?_;repeat(first|refine cA ?_|refine jJ ?_|refine kd ?_)
    refine dR J<|a8 j ?_;rw[<-hc];exact(aq d).symm
   .have d:=aT d;refine N J (y J (λf=>?_)<|λf=>cZ<|aX ?_)
    .have f:=aK f;refine N J<|bI ?_;repeat(first|refine cA ?_|refine jJ ?_|refine kd ?_)
     refine dR J<|a8 j ?_;rw[<-hc];exact((b d).trans<|aq f).symm
    .have f:=aT f;refine rt J (aG _ ⟨?_,?_⟩ ?_ aH)
     .decide
     .rw[<-hc];exact((b d).trans<|b f).symm
     .decide
 .have a:i=8:=by have a:¬(i:O)<8:=aT a;omega
  subst a;exact a6 (aO<|N J<|bQ J<|a8 j<|by rw[<-hc])
def bM(k:O)(x:MO.den):Prop:=∀j,j<8->0<=mx x j/\mx x j<=k
def bM.le{k l}{x:MO.den}(a:bM k x)(d:k<=l):bM l x:=λj c=>⟨(a j c).1,by have:=(a j c).2;omega⟩
def vf(x a:MO.den):MO.den:=(x.1+a.1,x.2.1+a.2.1,x.2.2.1+a.2.2.1,x.2.2.2.1+a.2.2.2.1,x.2.2.2.2.1+a.2.2.2.2.1,x.2.2.2.2.2.1+a.2.2.2.2.2.1,x.2.2.2.2.2.2.1+a.2.2.2.2.2.2.1,x.2.2.2.2.2.2.2+a.2.2.2.2.2.2.2)
def aeV{x c:MO.den}{a}(d:a<8):mx (vf x c) a=mx x a+mx c a:=by rcases rk d with rfl|rfl|rfl|rfl|rfl|rfl|rfl|rfl<;>rfl
def bM.add{k l}{x c:MO.den}(d:bM k x)(f:bM l c):bM (k+l) (vf x c):=λj a=>by rw[aeV a];have:=d j a;have:=f j a;omega
def ari{x:MO.den}(g:bM 65535 x):al z 221 [aM x] (cB af):=by
 refine aR Tryz.func221 ?_;refine N J<|U<|N J<|R<|aY (α:=Y) (λi=>⟨[(1,.c<|.P 0 0),(3,j i)],[(0,.box 127 0<|av MO x)],3,[]⟩) (λi=>i<=8) (λi=>8-i) 0 T aH ?_;rintro i l;refine U<|N J<|y J (λa=>?_)<|λa=>?_
 .have a:i<8:=by have a:(i:O)<8:=aK a;omega
  have k:=g i a;rcases rk a with rfl|rfl|rfl|rfl|rfl|rfl|rfl|rfl;all_goals
   simp only[mx]at k
   refine aA<|U<|R<|w<|rg 12 J J (λd=>?_)<|λd=>?_
   .have d:=aK d;exact absurd d G
   .refine s J (y J (λf=>?_)<|λf=>cZ<|aX ?_)
    .have f:=aK f;exact absurd f G
    .refine rt J (aG _ ?_ ?_ aH)
     .decide
     .decide
 .exact a6<|aO<|N J<|cx J
def xl(i c:Y)(a d:O):O:=if c<i then a+d else a
def adM(x a:MO.den)(i:Y):MO.den:=(xl i 0 x.1 a.1,xl i 1 x.2.1 a.2.1,xl i 2 x.2.2.1 a.2.2.1,xl i 3 x.2.2.2.1 a.2.2.2.1,xl i 4 x.2.2.2.2.1 a.2.2.2.2.1,xl i 5 x.2.2.2.2.2.1 a.2.2.2.2.2.1,xl i 6 x.2.2.2.2.2.2.1 a.2.2.2.2.2.2.1,xl i 7 x.2.2.2.2.2.2.2 a.2.2.2.2.2.2.2)
def arj{x d:MO.den}(g:bM 30000 x)(k:bM 30000 d):al z 187 [aM x,aM d] (.t [(af,av MO<|vf x d),(ah,[.I .i64 0])]):=by
 have l:=ari<|(g.add k).le T;refine aR Tryz.func187 ?_;refine N J ?_;refine jk ⟨[(2,.c<|.P 0 0),(3,.c<|.P 1000 0),(4,.c<|.P 2000 0),(5,j 0)],[(2000,.box 127 0<|av MO MO.aD),(1000,.box 127 0<|av MO d),(0,.box 127 0<|av MO<|vf x d)],8,[]⟩ ?_<|λf=>N J ?_;rotate_left
 .refine R<|aY (α:=Y) (λi=>⟨[(2,.c<|.P 0 0),(3,.c<|.P 1000 0),(4,.c<|.P 2000 0),(5,j 0),(6,j i)],[(2000,.box 127 0<|av MO MO.aD),(1000,.box 127 0<|av MO d),(0,.box 127 0<|av MO<|adM x d i)],3,[]⟩) (λi=>i<=8) (λi=>8-i) 0 T (wk (bJ J) ⟨bR J,bR J,bE J J,e⟩) ?_;rintro i p;refine U (N J<|y J (λa=>?_)<|λa=>?_)
  .have a:i<8:=by have a:(i:O)<8:=aK a;omega
   have m:=g i a;have n:=k i a;rcases rk a with rfl|rfl|rfl|rfl|rfl|rfl|rfl|rfl;all_goals
    simp only[mx]at m n
    refine aA<|U<|R<|rt J (aX<|rt J<|aG _ ?_ ?_<|wk (bJ J) ⟨bR J,bR J,bE J J,e⟩) (hp:=?_)
    .decide
    .decide
    simp[Pr.an,Pr.h,num,fR,adM,xl]
    omega
  .have a:i=8:=by have a:¬(i:O)<8:=aT a;omega
   subst a;exact a6<|dM f<|wk (bJ J) ⟨bR J,bR J,bE J J,e⟩
 refine U<|w<|rc J J l<|s J<|y J (λh=>er)<|λ_=>aA ?_;exact N J<|cx J
def TO(B:Y)(k:O)(x:TE.den):Prop:=(∃z:O,x.1=(z:D)/\aC z<=B)/\bM k x.2
def TO.le{B a}{k c}{x:TE.den}(d:TO B k x)(i:B<=a)(f:k<=c):TO a c x:=by let ⟨⟨z,e,l⟩,g⟩:=d;exact⟨⟨z,e,G⟩,g.le f⟩
def TO.qs{B}{k}{x:TE.den}(a:TO B k x)(c:B<=1000000):QS 1 x.1:=by let ⟨⟨z,e,d⟩,_⟩:=a;rw[e];exact QS.int T G
def zf{c:Type}{p:c->Prop}{l}{i}{d}(f:∀x∈l,p x)(a:i<Z l):p (E l i d):=by rw[aV,cH a];exact f _<|ru a
def UD{c:Type}{l}{i}(d:c)(a:i<Z l):az i l=E l i d::az (i+1) l:=by rw[pn a,aV,cH a];rfl
def xm(c:D)(m:MO.den)(x:TE.den):TE.den:=(c*x.1,vf m x.2)
def lB(c:D)(m:MO.den)(p:V TE.den):V TE.den:=if c=0 then[]else p.map (xm c m)
def aeX{B}{k}{c}{m:MO.den}{p}(M:Z p<=1000)(v:QS 1 c)(A:∀x∈p,TO B k x)(F:B<=1000000)(H:k<=30000)(L:bM 30000 m):
  al z 150 [aQ c,aM m,I TE p] (.t [(ah,[.S TE (lB c m p)]),(ah,[.I .i64 0])]):=by
 refine aR Tryz.func150 ?_
 refine N J<|w<|fg TE [] J J (s J<|U<|w<|rc J J (Gz c)<|s J<|y J (λh=>?_)<|λh=>aA ?_)
 .have h:dY c.num=0:=eq_of_beq h;have l:c=0:=DK.1<|GG.1 h;refine N J<|bI<|cA<|gZ cq J ?_;rw[lB,aq l];exact YR TE _
 .have h:dY c.num≠0:=ne_of_beq_false h;have l:c≠0:=λC=>h (GG.2<|DK.2 C)
  rw[lB,b l];refine jk ⟨[(8,.c<|.X 1000000)],[(1000000,.vec 132 TE<|p.map<|xm c m)],10,[]⟩ ?_<|λn=>?_;rotate_left
  .refine N J<|R<|aY (α:=Y) (λi=>⟨[(3,.c<|.P 0 0),(4,.c<|.P 1000 0),(2,I TE p),(8,.c<|.X 1000000),(9,j i)],[(1000000,.vec 132 TE<|(List.take i p).map<|xm c m),(1000,.box 127 0<|av MO m),(0,.box 44 0<|av .q c)],6,[]⟩) (λi=>i<=Z p) (λi=>Z p-i) 0 (be _) aH ?_;intro i Q;refine U (N J<|y J (λa=>?_)<|λa=>?_)
   .have a:i<Z p:=by have a:(i:O)<(Z p:O):=aK a;omega
    have r:=zf (d:=TE.aD) A a;have u:ae ((i:O))=i:=bW i;have g:al z 187 [aM m,aM (E p (ae<|(i:O)) TE.aD).2] (.t [(af,av MO<|vf m (E p (ae<|(i:O)) TE.aD).2),(ah,[.I .i64 0])]):=by rw[u];exact arj L<|r.2.le H
    have K:al z 41 [aQ c,aQ (E p (ae<|(i:O)) TE.aD).1] (aQ<|c*(E p (ae<|(i:O)) TE.aD).1):=by rw[u];exact LM _ _ v (r.qs F) T
    have f:=HM (xm c m) TE.aD p i a;rw[(NS:E p i TE.aD=E p (ae (i:O)) TE.aD)]at f;refine aA<|U<|R<|w<|rc J J g (s J (U<|N J<|y J (λh=>er)<|λ_=>aA ?_) (hp:=aF)) (hp:=aF);refine bT<|rc J J K (rl TE [xm c m (E p (ae (i:O)) TE.aD)] J J (ra J J J J J J J J J ?_ ?_<|s J ?_)) (hp:=aF)
    .show(_+1+(_+1)/4+192)*128<=_;simp only[cR,fp];omega
    .show(_+1)*12<=_;simp only[cR,fp];omega
    refine aX<|rt J<|aG (i+1) a Oc<|Wk.trans (wk (st':=⟨[(3,.c<|.P 0 0),(4,.c<|.P 1000 0),(2,I TE p),(8,.c<|.X 9011000),(9,j ((i+1:Y):O))],[(9011000,.vec 132 TE<|(List.take (i+1) p).map<|xm c m),(1000,.box 127 0<|av MO m),(0,.box 44 0<|av .q c)],12,[]⟩) ⟨sR J,sR J,sR J,sR J,sE J ?_,e⟩ ⟨bE J ?_,bR J,bR J,e⟩)<|Wk.trans (fa 1000000 9011000 J J J) aH
    .rfl
    .rw[f]
   .have a:i=Z p:=by have a:¬(i:O)<(Z p:O):=aT a;omega
    subst a;exact a6<|dM n<|wk ⟨sR J,e⟩ ⟨⟨_,J,kL.of_eq<|by rw[fv]⟩,e⟩
  .refine c6 1000000 J J J ?_;exact N J<|cx J
def iJ:Y->V TE.den->V TE.den->V TE.den
 |0,_,_=>[]
 |_+1,[],[]=>[]
 |n+1,x::p,[]=>x::iJ n p []
 |n+1,[],a::c=>a::iJ n [] c
 |n+1,x::p,a::c=>if pZ x.2 a.2>0 then x::iJ n p (a::c)else if pZ x.2 a.2<0 then a::iJ n (x::p) c else if x.1+a.1≠0 then(x.1+a.1,x.2)::iJ n p c else iJ n p c
def ark:∀n,iJ n [] []=[]
 |0=>rfl
 |_+1=>rfl
abbrev lC(p a:V TE.den):V TE.den:=iJ (Z p+Z a) p a
def UE:∀{n:Y}{x:TE.den}{p:V TE.den},iJ (n+1) (x::p) []=x::iJ n p []:=rfl
def UF:∀{n:Y}{a:TE.den}{c:V TE.den},iJ (n+1) [] (a::c)=a::iJ n [] c:=rfl
def BE{n}{x a:TE.den}{p c}:iJ (n+1) (x::p) (a::c)=if pZ x.2 a.2>0 then x::iJ n p (a::c)else if pZ x.2 a.2<0 then a::iJ n (x::p) c else if x.1+a.1≠0 then(x.1+a.1,x.2)::iJ n p c else iJ n p c:=rfl
def UG{B C}{k}{p q}(lp:Z p<=1000)(lq:Z q<=1000)(hp:∀x∈p,TO B k x)(hq:∀x∈q,TO C k x)(hB:B<=1000000)(hC:C<=1000000):
  al z 56 [I TE p,I TE q] (I TE<|lC p q):=by
 refine aR Tryz.func56 ?_
 refine N J<|w<|fg TE [] J J (s J<|N J ?_)
 refine jk ⟨[(5,.c<|.X 1000000)],[(1000000,.vec 132 TE<|lC p q)],10,[]⟩ ?_<|λM=>?_
 rotate_left
 .refine R<|aY (α:=Y×Y×V TE.den) (λm=>⟨[(0,I TE p),(1,I TE q),(5,.c<|.X 1000000),(6,j m.1),(7,j m.2.1)],[(1000000,.vec 132 TE m.2.2)],4,[]⟩) (λm=>m.1<=Z p/\m.2.1<=Z q/\Z m.2.2<=m.1+m.2.1/\∃n,Z p-m.1+(Z q-m.2.1)<=n/\m.2.2++iJ n (az m.1 p) (az m.2.1 q)=lC p q) (λm=>Z p-m.1+(Z q-m.2.1)) (0,0,[]) ⟨be _,be _,be _,_,a7 _,J⟩ aH ?_;rintro⟨i,a,out⟩ ⟨P,Q,hl,n,hn,he⟩;simp only at P Q hl hn he⊢;have H:ae ((i:O))=i:=bW i;have S:ae ((a:O))=a:=bW a;have k1:i<Z p->Z p-(i+1)+(Z q-a)<=n-1:=G;have k2:a<Z q->Z p-i+(Z q-(a+1))<=n-1:=G;have D:i<Z p->Z p-(i+1)+(Z q-a)<Z p-i+(Z q-a):=G;have m2:a<Z q->Z p-i+(Z q-(a+1))<Z p-i+(Z q-a):=G;have m3:i<Z p->a<Z q->Z p-(i+1)+(Z q-(a+1))<Z p-i+(Z q-a):=G;have W:i<Z p->n-1+1=n:=G;have k4:a<Z q->n-1+1=n:=G;have k5:i<Z p->a<Z q->Z p-(i+1)+(Z q-(a+1))<=n-1:=G;have K:i<Z p->az i p=E p i TE.aD::az (i+1) p:=UD TE.aD;have L:a<Z q->az a q=E q a TE.aD::az (a+1) q:=UD TE.aD;have v:al z 107 [aM (E p (ae<|(i:O)) TE.aD).2,aM (E q (ae<|(a:O)) TE.aD).2] (j<|pZ (E p i TE.aD).2 (E q a TE.aD).2):=by rw[H,S];exact arh _ _
  have second:∀(_:a<Z q)(_:i=Z p\/pZ (E p i TE.aD).2 (E q a TE.aD).2<0),∃A,Z p-i+(Z q-(a+1))<=A/\(out++[E q (ae<|(a:O)) TE.aD])++iJ A (az i p) (az (a+1) q)=lC p q:=λu f=>by
   refine⟨n-1,k2 u,?_⟩;rw[<-he,S,kF,L u,<-k4 u,dE];rcases f with f|f
   .subst f;rw[AW];rfl
   .by_cases g:i<Z p
    .rw[K g,BE,b G,aq f];rfl
    .rw[qp G];rfl
  have first:∀(_:i<Z p)(_:a=Z q\/pZ (E p i TE.aD).2 (E q a TE.aD).2>0),∃A,Z p-(i+1)+(Z q-a)<=A/\(out++[E p (ae<|(i:O)) TE.aD])++iJ A (az (i+1) p) (az a q)=lC p q:=λu f=>by
   refine⟨n-1,k1 u,?_⟩;rw[<-he,H,kF,K u,<-W u,dE];rcases f with f|f
   .subst f;rw[AW];rfl
   .by_cases g:a<Z q
    .rw[L g,BE,aq f];rfl
    .rw[qp (by omega:Z q<=a)];rfl
  refine U<|w<|rg 14 J J (λh=>?_)<|λh=>?_
  .have h:i<Z p:=by have h:(i:O)<(Z p:O):=aK h;omega
   have l:i<Z p:=h;refine s J<|y J (λ_=>aA ?_)<|λh=>er;have gp:=zf (d:=TE.aD) hp l;refine R<|U<|w<|rg 24 J J (λf=>?_)<|λf=>?_
   .have f:a=Z q:=by have f:(a:O)=(Z q:O):=aK f;omega
    refine rsk 17 J<|s J ?_;refine y J (λ_=>?_)<|λh=>er;refine w<|rl TE [E p (ae<|(i:O)) TE.aD] J J (ra J J J J J J J J J IX IZ<|s J<|N J ?_);refine kJ ?_;repeat(first|refine m8 ?_|refine kK ?_)
    refine aG (i+1,a,out++[E p (ae<|(i:O)) TE.aD]) ⟨l,Q,I1,first l (.inl f)⟩ (D l)<|Wk.trans (wk (st':=⟨[(0,I TE p),(1,I TE q),(5,.c<|.X 6006000),(6,j ((i+1:Y):O)),(7,j ((a:Y):O))],[(6006000,.vec 132 TE<|out++[E p (ae<|(i:O)) TE.aD])],9,[]⟩) ⟨sR J,sR J,sR J,sE J ?_,sR J,e⟩ ⟨bR J,e⟩)<|Wk.trans (fa 1000000 6006000 J J J) aH;rfl
   .have f:a<Z q:=by have f:¬(a:O)=(Z q:O):=aT f;omega
    have gq:=zf (d:=TE.aD) hq f;refine rg 29 J J (λ_=>?_)<|λh=>?_;rotate_left
    .have h:¬(i:O)<(Z p:O):=aT h;exact absurd l G
    refine gK J J J J J v (s J<|y J (λg=>?_)<|λg=>aA<|U<|w<|rg 57 J J (λo=>?_)<|λo=>?_) (hp:=aF)
    .have g:pZ (E p i TE.aD).2 (E q a TE.aD).2>0:=aK g;refine w<|rl TE [E p (ae<|(i:O)) TE.aD] J J (ra J J J J J J J J J IX IZ<|s J<|N J ?_);refine kJ ?_;repeat(first|refine m8 ?_|refine kK ?_)
     refine aG (i+1,a,out++[E p (ae<|(i:O)) TE.aD]) ⟨l,Q,I1,first l (.inr g)⟩ (D l)<|Wk.trans (wk (st':=⟨[(0,I TE p),(1,I TE q),(5,.c<|.X 6006000),(6,j ((i+1:Y):O)),(7,j ((a:Y):O))],[(6006000,.vec 132 TE<|out++[E p (ae<|(i:O)) TE.aD])],9,[]⟩) ⟨sR J,sR J,sR J,sE J ?_,sR J,e⟩ ⟨bR J,e⟩)<|Wk.trans (fa 1000000 6006000 J J J) aH;rfl
    .have o:(i:O)=(Z p:O):=aK o;exact absurd l G
    .have g:¬pZ (E p i TE.aD).2 (E q a TE.aD).2>0:=aT g;refine gK J J J J J v (s J<|y J (λt=>?_)<|λt=>aA ?_) (hp:=aF)
     .have t:pZ (E p i TE.aD).2 (E q a TE.aD).2<0:=aK t;refine w<|rl TE [E q (ae<|(a:O)) TE.aD] J J (ra J J J J J J J J J IX IZ<|s J<|N J ?_);refine kJ ?_;repeat(first|refine m8 ?_|refine kK ?_)
      refine aG (i,a+1,out++[E q (ae<|(a:O)) TE.aD]) ⟨P,f,I1,second f<|.inr t⟩ (m2 f)<|Wk.trans (wk (st':=⟨[(0,I TE p),(1,I TE q),(5,.c<|.X 7006000),(6,j ((i:Y):O)),(7,j ((a+1:Y):O))],[(7006000,.vec 132 TE<|out++[E q (ae<|(a:O)) TE.aD])],10,[]⟩) ⟨sR J,sR J,sR J,sR J,sE J ?_,e⟩ ⟨bR J,e⟩)<|Wk.trans (fa 1000000 7006000 J J J) aH;rfl
     .have t:¬pZ (E p i TE.aD).2 (E q a TE.aD).2<0:=aT t;have F:al z 42 [aQ (E p (ae<|(i:O)) TE.aD).1,aQ (E q (ae<|(a:O)) TE.aD).1] (aQ<|(E p i TE.aD).1+(E q a TE.aD).1):=by rw[H,S];exact YF _ _ (gp.qs hB) (gq.qs hC) T
      refine w<|rc J J F (s J<|U<|w<|rc J J (Gz _)<|s J<|y J (λr=>?_)<|λr=>cZ<|aO ?_) (hp:=aF)
      .have r:(E p i TE.aD).1+(E q a TE.aD).1≠0:=λcz=>by
        have r:dY ((E p i TE.aD).1+(E q a TE.aD).1).num≠0:=by simpa using r
        rw[cz]at r;exact r J
       refine bT<|rl TE [((E p i TE.aD).1+(E q a TE.aD).1,(E p (ae<|(i:O)) TE.aD).2)] J J (ra J J J J J J J J J IX IZ<|s J<|aO<|N J<|rt J ?_);refine eH<|aG (i+1,a+1,out++[((E p i TE.aD).1+(E q a TE.aD).1,(E p (ae<|(i:O)) TE.aD).2)]) ⟨l,f,I1,n-1,k5 l f,?_⟩ (m3 l f)<|Wk.trans (wk (st':=⟨[(0,I TE p),(1,I TE q),(5,.c<|.X 9009000),(6,j ((i+1:Y):O)),(7,j ((a+1:Y):O))],[(9009000,.vec 132 TE<|out++[((E p i TE.aD).1+(E q a TE.aD).1,(E p (ae<|(i:O)) TE.aD).2)])],12,[]⟩) ⟨sR J,sR J,sR J,sE J ?_,sE J ?_,e⟩ ⟨bR J,e⟩)<|Wk.trans (fa 1000000 9009000 J J J) aH
       .rw[<-he,kF,K l,L f,<-W l,dE,BE,b g,b t,aq r,H];rfl
       .rfl
       .rfl
      .have r:(E p i TE.aD).1+(E q a TE.aD).1=0:=by
        have r:dY ((E p i TE.aD).1+(E q a TE.aD).1).num=0:=by simpa using r
        exact DK.1<|GG.1 r
       refine N J<|rt J ?_;refine eH<|aG (i+1,a+1,out) ⟨l,f,(G:Z out<=(i+1)+(a+1)),n-1,k5 l f,?_⟩ (m3 l f)<|wk ⟨sR J,sR J,sR J,sE J ?_,sE J ?_,e⟩ ⟨bR J,e⟩
       .rw[<-he,K l,L f,<-W l,dE,BE,b g,b t,b<|λh=>h r]
       .rfl
       .rfl
  .have h:i=Z p:=by have h:¬(i:O)<(Z p:O):=aT h;omega
   refine s J<|y J (λf=>aA ?_)<|λf=>?_
   .have f:a<Z q:=by have f:(a:O)<(Z q:O):=aK f;omega
    refine R<|U<|w<|rg 24 J J (λg=>?_)<|λ_=>?_
    .have g:(a:O)=(Z q:O):=aK g;exact absurd f G
    refine rg 29 J J (λg=>?_)<|λ_=>?_
    .have g:(i:O)<(Z p:O):=aK g;exact absurd g G
    refine s J<|y J (λh=>er)<|λ_=>aA<|U<|w<|rg 57 J J (λ_=>?_)<|λg=>?_;rotate_left
    .have g:¬(i:O)=(Z p:O):=aT g;exact absurd h G
    refine s J ?_;refine y J (λ_=>?_)<|λh=>er;refine w<|rl TE [E q (ae<|(a:O)) TE.aD] J J (ra J J J J J J J J J IX IZ<|s J<|N J ?_);refine kJ ?_;repeat(first|refine m8 ?_|refine kK ?_)
    refine aG (i,a+1,out++[E q (ae<|(a:O)) TE.aD]) ⟨P,f,I1,second f<|.inl h⟩ (m2 f)<|Wk.trans (wk (st':=⟨[(0,I TE p),(1,I TE q),(5,.c<|.X 7006000),(6,j ((i:Y):O)),(7,j ((a+1:Y):O))],[(7006000,.vec 132 TE<|out++[E q (ae<|(a:O)) TE.aD])],10,[]⟩) ⟨sR J,sR J,sR J,sR J,sE J ?_,e⟩ ⟨bR J,e⟩)<|Wk.trans (fa 1000000 7006000 J J J) aH;rfl
   .have f:a=Z q:=by have f:¬(a:O)<(Z q:O):=aT f;omega
    subst h f;rw[AW,AW,ark,gO]at he;exact a6<|dM M<|wk ⟨sR J,e⟩ ⟨⟨_,J,kL.of_eq<|by rw[he]⟩,e⟩
 .refine c6 1000000 J J J ?_;exact N J<|cx J
def tP{B C:Y}{k:O}:∀{n:Y}{p l:V TE.den},(∀x∈p,TO B k x)->(∀x∈l,TO C k x)->∀x∈iJ n p l,TO (B+C) k x
 |0,_,_,_,_,x,hx=>by cases hx
 |n+1,[],[],_,_,x,hx=>by cases hx
 |n+1,a::p,[],hp,d,x,hx=>by
  rw[UE]at hx;rcases bY.1 hx with rfl|hx
  .exact(hp x ay).le G<|eO _
  .exact tP (λc hy=>hp c nV) d x hx
 |n+1,[],m::l,hp,d,x,hx=>by
  rw[UF]at hx;rcases bY.1 hx with rfl|hx
  .exact(d x ay).le G<|eO _
  .exact tP hp (λc hy=>d c nV) x hx
 |n+1,a::p,m::l,hp,d,x,hx=>by
  rw[BE]at hx;have g:∀c∈p,TO B k c:=λc hy=>hp c nV
  have i:∀c∈l,TO C k c:=λc hy=>d c nV
  split at hx
  .rcases bY.1 hx with rfl|hx
   .exact(hp x ay).le G<|eO _
   .exact tP g d x hx
  .split at hx
   .rcases bY.1 hx with rfl|hx
    .exact(d x ay).le G<|eO _
    .exact tP hp i x hx
   .split at hx
    .rcases bY.1 hx with rfl|hx
     .let ⟨⟨z,e,t⟩,r⟩:=hp a ay;let ⟨⟨w,f,hw⟩,_⟩:=d m ay;refine⟨⟨z+w,?_,G⟩,r⟩;show a.1+m.1=_;rw[e,f,Mi]
     .exact tP g i x hx
    .exact tP g i x hx
def xn:∀{n:Y}{p q:V TE.den},Z (iJ n p q)<=Z p+Z q
 |0,_,_=>be _
 |n+1,[],[]=>be _
 |n+1,a::p,[]=>by rw[UE];have:=xn (n:=n) (p:=p) (q:=[]);simp only[eB,m7]at*;omega
 |n+1,[],b::q=>by rw[UF];have:=xn (n:=n) (p:=[]) (q:=q);simp only[eB,m7]at*;omega
 |n+1,a::p,b::q=>by
  rw[BE];have c:=xn (n:=n) (p:=p) (q:=b::q);have d:=xn (n:=n) (p:=a::p) (q:=q);have f:=xn (n:=n) (p:=p) (q:=q);simp only[eB]at c d f⊢;split
  .simp only[eB];omega
  .split
   .simp only[eB];omega
   .split
    .simp only[eB];omega
    .omega
def UH{B C}{k l}{c}{m:MO.den}{p}(g:∃a:O,c=(a:D)/\aC a<=B)(i:bM k m)(n:∀x∈p,TO C l x):∀x∈lB c m p,TO (B*C) (k+l) x:=by
 unfold lB;split
 .intro x d;cases d
 .intro x d;obtain⟨y,r,rfl⟩:=jW.1 d;let ⟨a,e,t⟩:=g;let ⟨⟨w,f,hw⟩,u⟩:=n y r;refine⟨⟨a*w,?_,by rw[pD];exact ls t hw⟩,i.add u⟩;show c*y.1=_;rw[e,f,fh]
def UI c(m:MO.den) p:Z (lB c m p)<=Z p:=by
 unfold lB;split
 .exact be _
 .rw[cR];exact a7 _
def nB:V TE.den->V TE.den->V TE.den->V TE.den
 |out,[],_=>out
 |out,x::p,a=>nB (lC out<|lB x.1 x.2 a) p a
def UJ{B C:Y}{k l:O}{f:V TE.den}(g:∀x∈f,TO C l x):∀{p c:V TE.den}{n:Y},(∀x∈p,TO B k x)->(∀x∈c,TO (n*(B*C)) (k+l) x)->∀x∈nB c p f,TO ((n+Z p)*(B*C)) (k+l) x
 |[],c,n,_,d,x,hx=>by simpa using d x hx
 |a::p,c,n,hp,d,x,hx=>by rw[nB]at hx;have i:=hp a ay;have:=UJ g (n:=n+1) (λy hy=>hp y nV) (λy hy=>by have:=tP d (UH i.1 i.2 g) y hy;rwa[(zL:n*(B*C)+B*C=(n+1)*(B*C))]at this) x hx;rwa[(HA:n+1+Z p=n+Z (a::p))]at this
def aeY{q:V TE.den}:∀{p out:V TE.den},Z (nB out p q)<=Z out+Z p*Z q
 |[],out=>by simp[nB]
 |a::p,out=>by rw[nB];have c:=aeY (q:=q) (p:=p) (out:=lC out<|lB a.1 a.2 q);have d:Z (lC out<|lB a.1 a.2 q)<=Z out+Z (lB a.1 a.2 q):=xn;have f:=UI a.1 a.2 q;rw[eB,fD,hO];omega
def arl{B C:Y}{k}{c}{p}(a:Z p<=1000)(d:QS 1 c)(f:∀x∈p,TO B k x)(g:B<=1000000)(i:k<=30000):al z 105 [aQ c,I TE p] (I TE<|lB c MO.aD p):=by
 have l:bM 30000 MO.aD:=λj m=>by rcases rk m with rfl|rfl|rfl|rfl|rfl|rfl|rfl|rfl<;>decide
 refine aR Tryz.func105 ?_;refine N J<|w<|rx J J e ?_;refine rc J J (aeX a d f g i l) ?_;exact s J<|N J<|cx J
def arn{B C}{k l}{p a}(M:∀x∈p,TO B k x)(L:∀x∈a,TO C l x)(hl:Z p*Z a<=1000)(P:Z a<=1000)(lp:Z p<=1000)(Q:B<=1000000)(W:C<=1000000)(hBC:Z p*(B*C)<=1000000)(hk:k<=30000)(F:l<=30000):
  al z 108 [I TE p,I TE a] (.t [(ah,[.S TE (nB [] p a)]),(ah,[.I .i64 0])]):=by
 refine aR Tryz.func108 ?_
 refine N J<|w<|rl TE [] J J (s J ?_)
 refine U<|N J<|R<|aY (α:=Y×V TE.den) (λc=>⟨[(0,I TE p),(1,I TE a),(6,I TE c.2),(7,j c.1)],[],4,[]⟩) (λc=>c.1<=Z p/\Z c.2<=c.1*Z a/\(∀x∈c.2,TO (c.1*(B*C)) (k+l) x)/\nB c.2 (az c.1 p) a=nB [] p a) (λc=>Z p-c.1) (0,[]) ⟨be _,be _,(λx X=>by cases X),J⟩ aH ?_
 rintro⟨i,f⟩ ⟨H,b,m,r⟩
 simp only at H b m r⊢
 have e:ae ((i:O))=i:=bW i
 refine U<|N J<|y J (λg=>?_)<|λg=>?_
 .have g:i<Z p:=by have g:(i:O)<(Z p:O):=aK g;omega
  have A:=zf (d:=TE.aD) M g;have o:al z 150 [aQ (E p (ae<|(i:O)) TE.aD).1,aM (E p (ae<|(i:O)) TE.aD).2,I TE a] (.t [(ah,[.S TE (lB (E p i TE.aD).1 (E p i TE.aD).2 a)]),(ah,[.I .i64 0])]):=by rw[e];exact aeX P (A.qs Q) L W F<|A.2.le hk
  have D:i*Z a<=Z p*Z a:=dT _ H;have T:i*(B*C)<=Z p*(B*C):=dT _ H;have h5:1*(B*C)<=Z p*(B*C):=dT _ G;have u:=UH A.1 A.2 L;have l2:=UI (E p i TE.aD).1 (E p i TE.aD).2 a;have v:=UG (B:=i*(B*C)) (C:=B*C) G G m u G G;have K:=tP (n:=Z f+Z (lB (E p i TE.aD).1 (E p i TE.aD).2 a)) m u;have l3:Z (lC f<|lB (E p i TE.aD).1 (E p i TE.aD).2 a)<=Z f+Z (lB (E p i TE.aD).1 (E p i TE.aD).2 a):=xn;refine aA<|U<|R<|w<|rc J J o (s J<|U<|N J<|y J (λh=>er)<|λ_=>aA ?_) (hp:=aF);refine bT<|rc J J v<|s J<|aX<|rt J<|aG (i+1,lC f<|lB (E p i TE.aD).1 (E p i TE.aD).2 a) ⟨g,?_,?_,?_⟩ Oc aH
  .show Z (lC _ _)<=(i+1)*Z a;rw[fD,hO];omega
  .show∀x∈lC _ _,TO ((i+1)*(B*C)) (k+l) x;rw[(zL:(i+1)*(B*C)=i*(B*C)+B*C)];exact K
  .rw[<-r,UD TE.aD g];rfl
 .have g:i=Z p:=by have g:¬(i:O)<(Z p:O):=aT g;omega
  subst g;rw[AW]at r;have r:f=nB [] p a:=r;rw[r];exact a6<|aO<|N J<|cx J
def aro{B C}{k l}{p a}(f:∀x∈p,TO B k x)(g:∀x∈a,TO C l x)(i:Z p*Z a<=1000)(m:Z a<=1000)(n:Z p<=1000)(r:B<=1000000)(t:C<=1000000)(c:Z p*(B*C)<=1000000)(u:k<=30000)(d:l<=30000):
  al z 57 [I TE p,I TE a] (I TE<|nB [] p a):=by
 refine aR Tryz.func57 ?_
 exact N J<|w<|rc J J (arn f g i m n r t c u d)<|s J<|N J<|cx J
abbrev R5:ET:= .pr I8<|.pr I8<|.pr I8<|.pr I8 I8
def oT(v:O):O:=if v<0 then-v else v
def aeZ{v}(d: -128<=v/\v<=127):al z 104 [.c (.I .i8 v)] (j<|oT v):=by
 refine aR Tryz.func104 ?_;refine N J<|U<|N J<|y J (λa=>?_)<|λa=>aA ?_
 .have a:v<0:=aK a;refine N J<|bI<|cA<|dR J<|a8 j ?_;rw[oT,aq a];show 0-v= -v;omega
 .have a:¬v<0:=aT a;refine N J<|bQ J<|a8 j ?_;rw[oT,b a]
def sn(x:R5.den):O:=(oT x.2.1).tmod<|3+1
def zg(x:R5.den):O:=(oT x.2.2.1).tmod<|3-sn x+1
def UK(x:R5.den):0<=sn x/\sn x<=3:=by
 have h:0<=oT x.2.1:=by unfold oT;split<;>omega
 unfold sn;rw[kf h];omega
def ae0(x:R5.den):0<=zg x/\zg x<=3-sn x:=by
 have h:0<=oT x.2.2.1:=by unfold oT;split<;>omega
 have a:=UK x;unfold zg;rw[kf h];have c:=g6 (oT x.2.2.1) (G:3-sn x+1≠0);have d:=g7 (oT x.2.2.1) (G:0<3-sn x+1);omega
def BF(x:R5.den)(a:Y):MO.den:=(if 0<a then sn x else 0,if 1<a then zg x else 0,0,0,0,0,0,0)
def I2(x:R5.den)(a:Y):O:=if 1<a then 3-sn x-zg x else if 0<a then 3-sn x else 3
def BG(x:R5.den):V TE.den:=lB ((x.1.tmod 4:O):D) MO.aD [(((1:O):D),BF x 2)]
def nC(l:V R5.den):Y->V TE.den
 |0=>[]
 |n+1=>lC (nC l n)<|BG<|E l n R5.aD
def Od(x:R5.den):Prop:=(-128<=x.1/\x.1<=127)/\(-128<=x.2.1/\x.2.1<=127)/\-128<=x.2.2.1/\x.2.2.1<=127
def ae1(x:R5.den):bM 3 (BF x 2):=λj a=>by
 have c:=UK x;have d:=ae0 x;rcases rk a with rfl|rfl|rfl|rfl|rfl|rfl|rfl|rfl
 .exact c
 .show 0<=zg x/\zg x<=3;omega
 all_goals exact⟨eO _,(by decide:(0:O)<=3)⟩
def arp:bM 0 MO.aD:=λj a=>by rcases rk a with rfl|rfl|rfl|rfl|rfl|rfl|rfl|rfl<;>decide
def ae2(x:R5.den):∀a∈BG x,TO 3 3 a:=λa d=>by
 have f:aC (x.1.tmod 4)<=3:=by rw[IQ];split<;>omega
 have:=UH (B:=3) (C:=1) (k:=0) (l:=3) ⟨_,J,f⟩ arp (p:=[(((1:O):D),BF x 2)]) (λz c=>by rw[gI]at c;subst c;exact⟨⟨1,J,T⟩,ae1 x⟩) a d;exact this
def ae3(x:R5.den):Z (BG x)<=1:=UI _ _ _
def Oe(l:V R5.den):∀n,∀a∈nC l n,TO (n*3) 3 a
 |0,a,c=>by cases c
 |n+1,a,c=>by rw[fD,hO];exact tP (Oe l n) (ae2 _) a c
def Og(l:V R5.den):∀n,Z (nC l n)<=n
 |0=>a7 _
 |n+1=>by have a:Z (lC (nC l n)<|BG<|E l n R5.aD)<=Z (nC l n)+Z (BG<|E l n R5.aD):=xn;have c:=ae3<|E l n R5.aD;have d:=Og l n;show Z (lC _ _)<=_;omega
def ae4 l(Q:∀x∈l,Od x):al z 54 [.a [.S R5 l],j 2,j 3,j 4] (I TE<|nC l<|min (Z l) 4):=by
 refine aR Tryz.func54<|aeF 0 0 J J λK=>?_;have K:Z l*5<=140737488355328:=K;refine N J<|w<|rl TE [] J J (s J ?_);refine jk ⟨[(9,I TE<|nC l<|min (Z l) 4)],[],12,[]⟩ ?_<|λn=>?_
 .exact N J<|cx J
 refine N J<|R<|aY (α:=Y) (λi=>⟨[(4,.c<|.P 0 0),(1,j 2),(2,j 3),(3,j 4),(9,I TE<|nC l i),(10,j i)],[(0,.box 79 0 [.S R5 l])],4,[]⟩) (λi=>i<=Z l/\i<=4) (λi=>Z l-i) 0 ⟨be _,be _⟩ aH ?_;rintro i ⟨W,u⟩;have v:ae ((i:O))=i:=bW i;refine U<|w<|rg 20 J J (λh=>?_)<|λh=>?_
 .have h:i<Z l:=by have h:(i:O)<(Z l:O):=aK h;omega
  refine s J<|y J (λh2=>?_)<|λh2=>?_
  .have h2:i<4:=by have h2:(i:O)<4:=aK h2;omega
   have L:=zf (d:=R5.aD) Q h;have h0:=UK<|E l i R5.aD;have h1:=ae0<|E l i R5.aD;refine aA<|U<|R<|w<|rx J J e<|s J<|N J ?_;refine jk ⟨[(4,.c<|.P 0 0),(1,j 2),(2,j 3),(3,j 4),(9,I TE<|nC l i),(10,j i),(11,.c<|.P 5001000 0)],[(5001000,.box 127 0<|av MO<|BF (E l i R5.aD) 2),(0,.box 79 0 [.S R5 l])],12,[]⟩ ?_<|λr=>?_;rotate_left
   .refine N J<|R<|aY (α:=Y) (λf=>⟨[(4,.c<|.P 0 0),(1,j 2),(2,j 3),(3,j 4),(9,I TE<|nC l i),(10,j i),(11,.c<|.P 5001000 0),(12,j<|I2 (E l i R5.aD) f),(13,j f)],[(5001000,.box 127 0<|av MO<|BF (E l i R5.aD) f),(0,.box 79 0 [.S R5 l])],8,[]⟩) (λf=>f<=2) (λf=>2-f) 0 T (wk ⟨sR J,sR J,sR J,sR J,sR J,sR J,sR J,sE J J,sR J,e⟩ ⟨bE J J,bR J,e⟩) ?_;rintro f hj;refine U (w<|rg 32 J J (λg=>?_)<|λg=>?_)
    .have g:f<2:=by have g:(f:O)<2:=aK g;omega
     refine s J<|y J (λ_=>?_)<|λA=>?_;rotate_left
     .have A:¬(f:O)<4:=aT A;exact absurd g G
     have F:f=0\/f=1:=G;rcases F with rfl|rfl
     .have m:al z 104 [.c (.I .i8 (E l (ae<|(i:O)) R5.aD).2.1)] (j<|oT (E l i R5.aD).2.1):=by rw[v];exact aeZ L.2.1
      have X:I2 (E l i R5.aD) 0=3:=rfl;have b:(oT (E l i R5.aD).2.1).tmod (I2 (E l i R5.aD) 0+1)=sn (E l i R5.aD):=rfl;refine aA<|U<|R<|w<|rc J J m (s J (rt J (aX<|rt J<|aG 1 T T<|wk ⟨sR J,sR J,sR J,sR J,sR J,sR J,sR J,sE J J,sR J,e⟩ ⟨bE J J,bR J,e⟩) (hp:=aF)) (hp:=aF)) (hp:=aF)
     .have m:al z 104 [.c (.I .i8 (E l (ae<|(i:O)) R5.aD).2.2.1)] (j<|oT (E l i R5.aD).2.2.1):=by rw[v];exact aeZ L.2.2
      have X:I2 (E l i R5.aD) 1=3-sn (E l i R5.aD):=rfl;have b:(oT (E l i R5.aD).2.2.1).tmod (I2 (E l i R5.aD) 1+1)=zg (E l i R5.aD):=rfl;refine aA<|U<|R<|w<|rc J J m (s J (rt J (aX<|rt J<|aG 2 T T<|wk ⟨sR J,sR J,sR J,sR J,sR J,sR J,sR J,sE J J,sR J,e⟩ ⟨bE J J,bR J,e⟩) (hp:=aF)) (hp:=aF)) (hp:=aF)
    .have g:f=2:=by have g:¬(f:O)<2:=aT g;omega
     subst g;refine s J<|y J (λh=>er)<|λ_=>?_;exact a6<|dM r aH
   .have o:al z 30 [j ((E l (ae<|(i:O)) R5.aD).1.tmod 4)] (aQ (((E l i R5.aD).1.tmod 4:O):D)):=by
     rw[v];have: -3<=(E l i R5.aD).1.tmod 4/\(E l i R5.aD).1.tmod 4<=3:=by rw[IQ];split<;>omega
     exact x8 _ G G
    have H:al z 105 [aQ (((E l i R5.aD).1.tmod 4:O):D),I TE [(((1:O):D),BF (E l i R5.aD) 2)]] (I TE<|BG<|E l i R5.aD):=by
     have A:aC ((E l i R5.aD).1.tmod 4)<=3:=by rw[IQ];split<;>omega
     refine arl (B:=1) (C:=0) (k:=3) (T:1<=1000) (QS.int T G) (λfK M=>?_) T T;rw[gI]at M;subst M;exact⟨⟨1,J,T⟩,ae1 _⟩
    have V:=Og l i;have II: -3<=(E l (ae<|(i:O)) R5.aD).1.tmod 4/\(E l (ae<|(i:O)) R5.aD).1.tmod 4<=3:=by rw[IQ];split<;>omega
    have We:=ae3<|E l i R5.aD;have t:=UG (p:=nC l i) (q:=BG<|E l i R5.aD) G G (Oe l i) (ae2 _) G T;refine bT<|rc J J o (rc J J (x8 1 T T)<|rl TE [(((1:O):D),BF (E l i R5.aD) 2)] J J (rc J J H<|rc J J t<|s J<|aX<|rt J<|aG (i+1) ⟨h,h2⟩ uN aH)) (hp:=aF)
  .have h2:i=4:=by have h2:¬(i:O)<4:=aT h2;omega
   subst h2;exact a6<|dM n<|wk ⟨⟨_,J,bf.of_eq<|by rw[Nat.min_eq_right W]⟩,e⟩ e
 .have h:i=Z l:=by have h:¬(i:O)<(Z l:O):=aT h;omega
  refine s J<|y J (λh2=>oz)<|λ_=>?_;subst h;exact a6<|dM n<|wk ⟨⟨_,J,bf.of_eq<|by rw[qf u]⟩,e⟩ e
end Go.El
