/- Plain: sorted insertion keeps the order. Own work; no condition. -/
import Derived.Test.YtkkccchkmcjcpaaGreatV16
import Derived.Test.YtkkccchkmcjcpaaGreatV14
import Derived.Test.YtkkccchkmcjcpaaGreatV15
import Derived.Test.YtkkccchkmcjcpaaGreatV11
import Derived.Test.YtkkccchkmcjcpaaGreatV5
import Derived.Test.YtkkccchkmcjcpaaGreatV6
set_option linter.all false
set_option maxHeartbeats 16000000
set_option maxRecDepth 100000
open Bool renaming false->ah,true->ae
open Go.El renaming rr->e,cS->N,vL->q,gy->L,cI->D,re->o,auI->z,y6->u,rb->t,ps->h
open Go.Proofs.Tryz renaming prog->j
open Int renaming toNat->ad
open List renaming length->G,take->y,getD->Y,drop->aE,range->be
open List.Pairwise renaming nil->wu
open _root_ renaming List->V,Rat->O,Int->Z,Nat->I
namespace Go.El
open Go Go.Proofs Go.RowKit Rx
section
variable{α:Type}(d:α)(lt:α->Bool)(x:α)(l:V α)
def af5:∀i,i<=G l->((j4 d lt x l i).1=ah/\(j4 d lt x l i).2=y i l/\∀a,a<i->lt (Y l a d)=ah)\/((j4 d lt x l i).1=ae/\∃k,k<i/\(∀a,a<k->lt (Y l a d)=ah)/\lt (Y l k d)=ae/\(j4 d lt x l i).2=y k l++x::(y i l).drop k)
 |0,_=> .inl ⟨J,J,λa E=>S⟩
 |i+1,m=>by
  have b:y (i+1) l=y i l++[Y l i d]:=by rw[mM,aF,bD m];rfl
  have n:(y i l).length=i:=v7;rw[VL];rcases af5 i S with⟨f,p,g⟩|⟨f,k,C,r,v,B⟩
  .rw[f,p];cases c:lt (Y l i d)with
   |false=>
    left
    refine⟨J,b.symm,λa F=>?_⟩
    by_cases e:a=i
    .rw[e];exact c
    .exact g a S
   |true=>
    right
    refine⟨J,i,S,g,c,?_⟩
    show y i l++[x]++[Y l i d]=_
    rw[b,Av S,wX S,jR];rfl
  .rw[f];right;refine⟨J,k,S,r,v,?_⟩;show(j4 d lt x l i).2++[Y l i d]=_;rw[B,b,Av S,jR];rfl
def atx:∃k,k<=G l/\(∀b,b<k->lt (Y l b d)=ah)/\(k<G l->lt (Y l k d)=ae)/\sA d lt x l=y k l++x::aE k l:=by
 unfold sA;rcases af5 d lt x l (G l) (a8 _)with⟨a,c,f⟩|⟨a,k,n,g,i,m⟩
 .refine⟨G l,a8 _,f,λh=>S,?_⟩;rw[a,c,M A,BO]
 .refine⟨k,S,g,λ_=>i,?_⟩;rw[a,s J,m,eE]
end
def JA(x:V O×Z)(l:V (V O×Z)):V (V O×Z):=sA ([],0) (λy=>decide<|ik x.1 y.1<0) x l
def aty x l:(JA x l).Perm (x::l):=afh _ _ _ _
def atz{x}{l}(v:l.Pairwise qm):(JA x l).Pairwise qm:=by
 let ⟨k,k1,C,E,F⟩:=atx ([],0) (λa:V O×Z=>decide<|ik x.1 a.1<0) x l;rw[JA,F];have H:(y k l++aE k l).Pairwise qm:=by rw[ri];exact v
 let ⟨p1,f,K⟩:=tD.1 H;have g:∀j(c:j<G l),Y l j ([],0)=l[j]:=λj c=>by rw[aF,bD c];rfl
 have i:∀a∈y k l,qm a x:=λa b=>by
  obtain⟨j,c,rfl⟩:=AM b;have m:j<k:=by rw[il]at c;omega
  have d:=aL<|C j m;rw[g j S]at d;rw[sT];show jl _ _<=0;rw[Ff];show-(ik x.1 _)<=0;omega
 have n:∀a∈aE k l,qm x a:=λa b=>by
  have p:k<G l:=dQ λv=>by rw[wX S]at b;cases b
  have d:=az<|E p;rw[g k p]at d;have B:qm x l[k]:=zL d;rw[lY p]at b f;rcases df.1 b with rfl|b
  .exact B
  .exact af4 B<|(im.1 f).1 a b
 refine tD.2 ⟨p1,im.2 ⟨n,f⟩,λa b z r=>?_⟩;rcases df.1 r with rfl|r
 .exact i a b
 .exact K a b z r
def rf(l:V (V O×Z)):V (V O×Z):=l.foldl (λo x=>JA x o) []
def af6 l x:rf (l++[x])=JA x (rf l):=by rw[rf,List.foldl_append];rfl
def V4:∀(n:I)(l:V (V O×Z)),G l=n->(rf l).Perm l/\(rf l).Pairwise qm
 |0,l,b=>by rw[et b];exact⟨uY _,wu⟩
 |n+1,l,b=>by
  have a:l≠[]:=λe=>by rw[e]at b;cases b
  have e:l=l.dropLast++[l.getLast a]:=(Vy a).symm;let ⟨i1,i2⟩:=V4 n l.dropLast (by rw[List.length_dropLast];omega);rw[e,af6];exact⟨(aty _ _).trans<|((List.Perm.cons _ i1)).trans (List.perm_append_singleton _ _).symm,atz i2⟩
def atA{a}(Q:jC a)(hq:∀i,QS 20 (Y a i 0)):∃v:V (V Z),(∀r∈v,aG r/\Rx.bw (Rx.zx r))/\Rx.o8 v=Rx.zx (dJ a)/\af j 74 [N .q a] (N (.sl .q)<|v.map<|gX<|cj a):=by
 have l2:=Q.l2;have l9:=Q.l9;let ⟨p,⟨hp,p3,s⟩,W⟩:=Vx (P:=λp=>cE p/\3<=p/\nz p (dJ a)=ae) (by let ⟨p,n,l,_,h4⟩:=Q.af1;exact⟨p,n,l,h4⟩);have hp9:p<2304:=by let ⟨b,n,l,K,h4⟩:=Q.af1;exact s8 (dQ λhc=>W b S ⟨n,l,h4⟩) K
 have E:=Q.mf;have H:aX p:=⟨hp,S⟩;have M:dq p (dJ a):=⟨H,E.am,E.l2,E.l9,(Oi H _).1 s⟩;have qT:G (dJ a)=G a:=Aa a;have R:au (md p<|dJ a)=md p (dJ a):=M.trim;let ⟨f1,f2,f3⟩:=M.f;have kj:md p (dJ a)≠[]:=f1.ne;let ⟨L,hL,atB⟩:=afl H S (a:=md p<|dJ a) S (λi=>(pH H.pos (dJ a) i).1) (by rw[MV,R];exact kj) (λd hd=>by rw[MV,R,f2,qT]at hd;have n:d<=4:=S;have l:p^d<=2304^4:=cQ (v5 S d)<|fG A n;omega);rw[MV,R]at hL;have VP:(Fx.fx (jL p<|md p<|dJ a):Fx p)=Fx.fx (dJ a):=by have e:=(Fx.HH H f1.c kj).2.2.2.2;rw[f1.one,Fx.l4,Fx.one_mul,f3]at e;exact e.symm
 rw[VP]at hL;let ⟨nZ,hi⟩:=M.n9 hL;have hL8:G L<=8:=by have:=(Jf λf hf=>(nZ.ok f hf).2).1;have:=nZ.fl;rw[cL]at*;omega
 let ⟨k1,k2,k3⟩:=E3 (p:=p) S<|2*cO (dJ a);let ⟨m1,m2⟩:=E.mBp (p:=p) S S;have hlX:=afy H nZ (u:=9) (w:=9) k1 S (λi=>(E.aB i).le S) m1 S S S;have O:=VS H k1 _ _ nZ;have C:=M.cbX hL k1 k2 O;let ⟨G1,G2⟩:=gL.all (p:=p) 8 V5 (λe=>by have n:=nZ.fl;rw[<-O.EZ.2,e]at n;have l:G (dJ a)=1:=n;omega) C;have AW:=afQ (w:=9) A A m1 8 (dJ a) _ A V5 (λe=>by
  have n:=nZ.fl;rw[<-O.EZ.2,e]at n;have l:G (dJ a)=1:=n;omega) V5 S C (λf hf i=>by
  let ⟨_,_,_,_,_,f4⟩:=O.mem hf;rw[<-f4 i];exact EE (kV H.pos) m1)
 refine⟨_,G1,G2,?_⟩;have mX:=V0 ((p:Z)^ig p (2*cO (dJ a))) 8 (dJ a)<|sB p (ig p<|2*cO (dJ a)) (dJ a)<|L.map (·.1);generalize me ((p:Z)^ig p (2*cO (dJ a))) 8 (dJ a) (sB p (ig p<|2*cO (dJ a)) (dJ a)<|L.map (·.1))=v at*;have hGB:∀g∈v,G g<=12/\∀i,aw 210 (Y g i 0):=λg hgm=>by
  let ⟨g1,g2⟩:=G1 g hgm;have hd:Rx.zx g∣Rx.zx (dJ a):=by rw[<-G2];exact OI hgm
  have hb:=λi=>Og E.am g1 hd i
  refine⟨?_,λi=>?_⟩
  .have n:=Rx.fV hd (by rw[<-G2];exact(Va λg s=>(G1 g s).2).1);rw[Rx.jZ g1.can,Rx.jZ E.am.can]at n;omega
  .have n:=E.bB;have l:=hb i;have:aw 8 (Y g i 0):=by unfold aw at*;omega
   exact this.le S
 generalize hX:sB p (ig p<|2*cO (dJ a)) (dJ a) (L.map (·.1))=X at*;have hfB:∀i,aw 201 (Y (qk a) i 0):=λi=>by
  by_cases hi:i<G a
  .rw[Jy a hi];exact afX Q hq hi
  .rw[cF _ (by rw[Ag];omega)];exact aw.zero _
 have Pe:=asM (qk a) (by rw[Ag];omega) (by rw[Ag];omega)<|λi=>(hfB i).le S;rw[atl Q]at Pe;have qq:∀g∈v,af j 146 [N .z g,.a<|av .z<|Y (qk a) (ad<|(G (qk a):Z)-1) 0] (N .q<|gX (cj a) g):=λg s=>by
  have e:Y (qk a) (ad<|(G (qk a):Z)-1) 0=((cj a:I):Z):=by rw[Ag,(S:ad ((G a:Z)-1)=G a-1),Jy a S,Pc Q]
  have n:=hfB<|ad<|(G (qk a):Z)-1;rw[e]at n⊢;exact asO g (cj a) (Ce a _) (hGB g s).1 (hGB g s).2<|n.le S
 have hbd:=afH (dJ a) 6 A S E.aB;have hBS:Sm ((cO (dJ a):I):Z):=by have n:=E.bB;exact(show aw 8 _ by unfold aw at*;omega:aw 8 ((cO (dJ a):I):Z)).sm S
 have had:=zc ((cO (dJ a):I):Z) ((cO (dJ a):I):Z) hBS hBS;have hil:=atn Q hq;have jM:=Ag a;generalize qk a=f0 at*;have F:=MW<|dJ a;have hsS:∀i,Sm (Y (dJ a) i 0):=λi=>(E.aB i).sm A
 refine aD Tryz.func74 ?_;refine rr J<|aO J J hil J<|t<|rc J J Pe<|o J<|rr J ?_;generalize dJ a=m at*;refine gy<|q<|aK (α:=I) (λb=>⟨[(3,N .z f0),(4,N .z m),(5,cU b)],[],4,[]⟩) (λb=>cE b/\3<=b/\b<=p) (λb=>p-b) 3 ⟨⟨A,λd n l=>absurd (ly n n) S⟩,a8 _,p3⟩ (wk ⟨sR J,sR J,sE J J,T⟩ T) ?_;rintro b ⟨q1,q2,q3⟩;have uH:(0:Z)<(b:Z):=S;have F:=MW m b S S S hsS;have hc1:aY b (au<|md b m):=gH uH<|pH uH m;have NP:aY b (au<|dG b<|au<|md b m):=gH uH<|zJ S _;have EJ:G (au<|md b m)<=9:=by have:=kK<|md b m;rw[oU]at this;omega
 have EH:G (au<|dG b<|au<|md b m)<=9:=by have:=kK<|dG b<|au<|md b m;have:=zI b<|au<|md b m;omega
 have hde:=ae7 (au<|md b m) b S S S hc1.1;have TO:=Bt b q1 S _ _ S S hc1 NP;refine gy<|t<|rc J J F<|rc J J F<|rc J J hde<|rc J J TO<|o J<|z J (λn=>?_)<|λn=>?_
 .have n:(G (c8 b (au<|md b m)<|au<|dG b<|au<|md b m):Z)≠1:=bne_iff_ne.1 n;have U:nz b m=ah:=iX λe=>n sK
  have MR:b<p:=Nat.lt_of_le_of_ne q3 λe=>by rw[e,s]at U;cases U
  let ⟨r,r1,r2,r3,r4,r5⟩:=Y1 b S;refine ai<|q<|aO J J r5 J<|rt J<|dy<|aA r ⟨r1,S,yB λe=>r4 p MR e hp⟩ (S:p-r<p-b) aM
 .have n:((G (c8 b (au<|md b m)<|au<|dG b<|au<|md b m):Z) !=1)=ah:=n;have U:nz b m=ae:=jU (by have l:=bne_eq_false_iff_eq.1 n;omega);have MR:b=p:=Nat.le_antisymm q3<|yB λe=>W b e ⟨q1,q2,U⟩;subst MR;refine aN<|ay ?_;rw[R]at F;refine t<|rc J J F<|rc J J atB<|o J<|t<|gR (.sl u) [] J J (o J<|gy<|rr J ?_);refine q<|aK (α:=I×V (V Z)) (λx=>⟨[(3,N .z f0),(4,N .z m),(5,cU b),(8,.c<|.S MT L),(10,.c<|.X 6000000),(11,D x.1)],[(6000000,.vec 22 (.sl u) x.2)],8,[]⟩) (λx=>x.1<=G L/\x.2=(y x.1 L).map (·.1)) (λx=>G L-x.1) (0,[]) ⟨aW _,J⟩ aM ?_;rintro⟨i,B⟩ ⟨i1,i2⟩;simp only at i1 i2;have ho:G B<=9:=V6;refine gy (rr J<|z J (λl=>?_)<|λl=>?_)
  .have l:i<G L:=by have l:(i:Z)<(G L:Z):=az l;omega
   have ei:ad ((i:Z))=i:=aV i;refine ai<|gy<|q ?_;refine bs<|rl (.sl u) [_] J J (ra J J J J J J J J J ?_ ?_<|o J ?_) (hp:=ak)
   .show(G B+1+(G B+1)/4+192)*24<=_;omega
   .show(G B+1)*1<=_;omega
   refine aT<|rt J (hp:=ak)<|aA (i+1,B++[(Y L (ad<|(i:Z)) fA).1]) ⟨l,?_⟩ Mr<|Wk.trans (wk (st':=⟨[(3,N .z f0),(4,N .z m),(5,cU b),(8,.c<|.S MT L),(10,.c<|.X 9007000),(11,D ((i+1:I):Z))],[(9007000,.vec 22 (.sl u)<|B++[(Y L (ad<|(i:Z)) fA).1])],20,[]⟩) (aS J) ⟨bR J,T⟩)<|Wk.trans (fp 6000000 9007000 J J J) aM;show B++[_]=(y (i+1) L).map (·.1);rw[ei,i2,mM,fe,aF,bD l];rfl
  .have l:i=G L:=by have l:¬(i:Z)<(G L:Z):=aL l;omega
   rw[l,eE]at i2;subst i2;refine aN<|ay ?_;refine cD 6000000 J J J ?_;refine t<|rc J J hbd<|rc J J hbd<|rc J J had<|o J<|rr J ?_;have OO:∀fQ:I,((b:Z)^fQ<=((cO m:I):Z)+((cO m:I):Z)↔b^fQ<=2*cO m):=λfQ=>by rw[<-ot];omega
   refine gy<|q<|aK (α:=I) (λk=>⟨[(3,N .z f0),(4,N .z m),(5,cU b),(10,N (.sl u)<|L.map (·.1)),(12,.c<|.P 9005000 0),(13,D k)],[(9005000,.box 44 0<|av .z<|((cO m:I):Z)+((cO m:I):Z))],11,[]⟩) (λk=>1<=k/\k<=ig b (2*cO m)) (λk=>ig b (2*cO m)-k) 1 ⟨a8 _,k1⟩ aM ?_;rintro k ⟨e1,e2⟩;refine gy<|t<|rc J J (Tp b k S S)<|rc J J (KP _ _)<|o J<|z J (λK=>?_)<|λK=>?_
   .have K:=(OO k).1<|OG.1<|az K;have h4:k≠ig b (2*cO m):=λe=>by rw[e]at K;omega
    refine ai<|q<|rt J (hp:=ak)<|dy<|aA (k+1) ⟨S,S⟩ (S:ig b (2*cO m)-(k+1)<ig b (2*cO m)-k) aM
   .have K:¬b^k<=2*cO m:=λe=>aL K (OG.2<|(OO k).2 e)
    have h4:k=ig b (2*cO m):=Nat.le_antisymm e2<|yB λe=>K<|k3 k e1 e;subst h4;refine aN<|ay ?_;refine t<|rc J J hlX<|rc J J (Tp b _ S S)<|rc J J AW<|o J<|t<|gR (.sl .q) [] J J (o J<|gy<|rr J ?_);refine q<|aK (α:=I×V (V Rat)) (λx=>⟨[(3,N .z f0),(14,N (.sl .z) v),(15,.c<|.X 13000000),(16,D x.1)],[(13000000,.vec 40 (.sl .q) x.2)],15,[]⟩) (λx=>x.1<=G v/\x.2=(y x.1 v).map (gX<|cj a)) (λx=>G v-x.1) (0,[]) ⟨aW _,J⟩ aM ?_;rintro⟨i,B⟩ ⟨i1,i2⟩;simp only at i1 i2;have ho:G B<=9:=V6;refine gy<|rr J<|z J (λl=>?_)<|λl=>?_
    .have l:i<G v:=by have l:(i:Z)<(G v:Z):=az l;omega
     have hm:Y v (ad<|(i:Z)) (ET.cJ<|.sl .z)=v[i]:=by rw[aV,aF,bD l];rfl
     have hb:=qq _<|j6 l;rw[<-hm]at hb;refine ai<|gy<|q ?_;refine bs<|rc J J hb (rl (.sl .q) [_] J J (ra J J J J J J J J J ?_ ?_<|o J ?_)) (hp:=ak)
     .show(G B+1+(G B+1)/4+192)*24<=_;omega
     .show(G B+1)*1<=_;omega
     refine aT<|rt J (hp:=ak)<|aA (i+1,B++[gX (cj a) (Y v (ad<|(i:Z))<|ET.cJ<|.sl .z)]) ⟨l,?_⟩ (S:G v-(i+1)<G v-i)<|Wk.trans (wk (st':=⟨[(3,N .z f0),(14,N (.sl .z) v),(15,.c<|.X 16013000),(16,D ((i+1:I):Z))],[(16013000,.vec 40 (.sl .q)<|B++[gX (cj a) (Y v (ad<|(i:Z))<|ET.cJ<|.sl .z)])],30,[]⟩) (aS J) ⟨bR J,T⟩)<|Wk.trans (fp 13000000 16013000 J J J) aM;show B++[_]=(y (i+1) v).map (gX<|cj a);rw[hm,i2,mM,fe,bD l];rfl
    .have l:i=G v:=by have l:¬(i:Z)<(G v:Z):=aL l;omega
     rw[l,eE]at i2;subst i2;refine aN<|ay ?_;refine cD 13000000 J J J ?_;exact rr J<|bU J
end Go.El
namespace Go.El
open Go Go.Proofs Go.RowKit
def qn(c:O):V O:=dV [c]
def agc c:af j 267 [aQ c] (N .q<|qn c):=by refine aD Tryz.func267 ?_;exact e J<|t<|rl .q [_] J J (rc J J (Vm [c] (by rw[wK];omega))<|o J<|bU J)
def Fq(a b:V O):V O:=qe a<|sr ((-1:Z):O) b
def agd a b i:Y (Fq a b) i 0=Y a i 0-Y b i 0:=by rw[Fq,OS,Fh,show(((-1:Z)):O)= -1 from J];grind
def atI{k}a b(l:G a<=1000)(d:G b<=1000)(m:∀i,QS k (Y a i 0))(f:∀i,QS k (Y b i 0))(g:1<=k)(x:k<=10000000000):af j 268 [N .q a,N .q b] (N .q<|Fq a b):=by
 have n:QS k (((-1:Z)):O):=⟨(aw.one (a:= -1) A).le g,(aw.one (a:=1) A).le g⟩;have p:=Vo (((-1:Z)):O) b d n f S;have r:∀i,QS k (Y (sr ((-1:Z):O) b) i 0):=λi=>by rw[Fh,show(((-1:Z)):O)*Y b i 0= -(Y b i 0)by rw[show(((-1:Z)):O)= -1 from J];grind];exact(f i).neg
 have v:G (sr ((-1:Z):O) b)<=1000:=cQ (z9 _) (by simp;exact d);have c:=Vp a _ l v m r S;refine aD Tryz.func268 ?_;exact e J<|t<|rc J J (A' (-1) A A)<|rc J J p<|rc J J c<|o J<|bU J
def V7(a:V O)(b:a≠[])(c:G a<=1000):af j 210 [N .q a] (aQ<|Y a (G a-1) 0):=by have d:=bX.2 b;refine aD Tryz.func210 ?_;refine e J<|e J (hp:=ak)<|bq J ?_;rw[(S:G a-1=ad ((G a:Z)-1))];rfl
def atJ{k}c(g:c≠0)(b:QS k c)(i:k<=100000000000):af j 209 [aQ c] (.t [(ae,av .q c⁻¹),(ah,[.I .i64 0])]):=by have a:Rat.divInt (c.den:Z) c.num=c⁻¹ :=(Rat.inv_def c).symm;have f:=Vk (c.den:Z) c.num (λa=>g<|zY a) (b.d.sm S)<|b.n.sm S;rw[a]at f;refine aD Tryz.func209 ?_;exact e J<|aO J J f J<|bU J
def atK{r}(a:r≠[]):cV r=sr (Y r (G r-1) 0)⁻¹ r:=by refine Rx.BR (Rx.oC r) (Rx.sn _) ?_;rw[Rx.z' a,aeG]
def V8{k}a(d:G a<=1000)(c:∀i,QS k (Y a i 0))(f:a≠[]->Y a (G a-1) 0≠0)(n:k<=10000000000):af j 142 [N .q a] (N .q<|cV a):=by
 refine aD Tryz.func142 ?_;refine e J<|L<|e J<|z J (λh=>?_)<|λh=>ai ?_
 .have h:(G a:Z)=0:=eq_of_beq h;rw[et (by omega:G a=0)];exact e J<|bc<|bt<|g8 a6 J<|a7.nil _
 .have b:a≠[]:=λl=>by subst l;cases h
  have m:=(c<|G a-1).inv<|f b;have g:=Vo (Y a (G a-1) 0)⁻¹ a d m c S;rw[<-atK b]at g;exact t<|rc J J (V7 a b d)<|rc J J (atJ _ (f b) (c _) S)<|o J<|aO J J g J<|bU J
def atL{k}a(r:G a<=1000)(g:∀i,QS k (Y a i 0))(d:1<=k)(v:k<=10000000000):af j 140 [N .q a] (N .q<|kC a):=by
 refine aD Tryz.func140 ?_;obtain⟨F,f⟩:∃F:I->O,F=λi=>(((i+1:I):Z):O)*Y a (i+1) 0:=⟨_,J⟩
 have l:kC a=(be<|G a-1).map F:=by rw[f];rfl
 rw[l];refine e J<|t<|gR .q [] J J (o J<|L<|e J ?_);refine q<|aK (α:=I) (λi=>⟨[(0,N .q a),(3,.c<|.X 1000000),(4,D ((i+1:I):Z))],[(1000000,.vec 46 .q<|(be i).map F)],3,[]⟩) (λi=>i<=G a-1) (λi=>G a-i) 0 (aW _) aM ?_;intro i x;have m:G ((be i).map F)=i:=ax;refine L<|e J<|z J (λh=>?_)<|λh=>?_
 .have h:i+1<G a:=by have h:((i+1:I):Z)<(G a:Z):=az h;omega
  have n:QS k ((((i+1:I):Z)):O):=⟨(aw.one (a:=((i+1:I):Z)) S).le d,(aw.one (a:=1) A).le d⟩;have b:=Vl ((((i+1:I):Z)):O) (Y a (ad<|((i+1:I):Z)) 0) n (g _) S;have p:((((i+1:I):Z)):O)*Y a (ad<|((i+1:I):Z)) 0=F i:=by rw[f,aV]
  rw[p]at b;refine ai<|L<|q<|bs ?_;refine rc J J (A' ((i+1:I):Z) S S) ?_;refine rc J J b ?_ (hp:=ak);refine rl .q [F i] J J (ra J J J J J J J J J ?_ ?_<|o J ?_)
  .show(G ((be i).map F)+1+(G ((be i).map F)+1)/4+192)*64<=_;omega
  .show(G ((be i).map F)+1)*4<=_;omega
  refine aT<|rt J (hp:=ak)<|aA (i+1) (S:i+1<=G a-1) ka<|Wk.trans (wk (st':=⟨[(0,N .q a),(3,.c<|.X 4009000),(4,D ((i+1+1:I):Z))],[(4009000,.vec 46 .q<|(be<|i+1).map F)],20,[]⟩) (aS J) ⟨bE J ?_,T⟩)<|Wk.trans (fp 1000000 4009000 J J J) aM;rw[Vn]
 .have h:i=G a-1:=by have h:¬((i+1:I):Z)<(G a:Z):=aL h;omega
  subst h;exact jS<|lJ<|kF<|jT<|ay<|cD 1000000 J J J<|e J<|bc<|atR J
open Rx
def V9 c i:Y (qn c) i 0=if i=0 then c else 0:=by
 rw[qn,Ad];cases i with
 |zero=>rfl
 |succ i=>simp
def Pf a:Y (mJ a) 0 0=0:=by rw[aeF];rfl
def Pg a i:Y (mJ a) (i+1) 0=Y a i 0:=by rw[aeF];rfl
structure sH(a b:V O)(n m c:I)(q r:V O):Prop where
 qc:bY q
 rc:bY r
 qg:∀i,q.getD i 0=if i<c-n then(dA (b.getD n 0)⁻¹ a b n m (c-n)).1.getD (a.length-c+i) 0 else 0
 rg:∀i,r.getD i 0=if i<min c n then(dA (b.getD n 0)⁻¹ a b n m (c-n)).2.getD (a.length-c+i) 0 else 0
def V'{a}{n}(b:bY a)(d:∀i,n<=i->Y a i 0=0):G a<=n:=dQ λc=>by
 rcases b with b|b
 .rw[b]at c;exact c<|aW _
 .exact b<|d _ S
def atM{a:V O}{n}(b:Y a n 0≠0):n<G a:=dQ λc=>b<|kv a S
def age a b:bY (qe a b):=sn _
def agf{inv:O}{a b:V O}{n m:I}(d:G a=n+m)(f:G b=n+1):∀c,c<=m->∀i,i<m-c->(dA inv a b n m c).2.getD i 0=Y a i 0
 |0,_,_,_=>rfl
 |c+1,g,i,k=>by rw[dA];show Y (lS _ _ b<|m-1-c) i 0=_;rw[lS,vj (by rw[(yk inv a b n m c).2];omega),M S];exact agf d f c S i S
def Wa(r:V O)(x:O):∀i,Y (qe (mJ r)<|qn x) i 0=if i=0 then x else Y r (i-1) 0
 |0=>by rw[OS,Pf,V9,s J,s J,Iq]
 |i+1=>by rw[OS,Pg,V9,M S,M S,pV];rfl
def sH.start a b n m:sH a b n m 0 [] []:=
 ⟨EA,EA,λi=>by rw[M S];rfl,λi=>by rw[M S];rfl⟩
section
variable{a b q r:V O}{n m c:I}
def sH.r1(f:sH a b n m c q r)(g:G b=n+1)(p:m=G a-n)(v:c<G a) i:
  Y (qe (mJ r)<|qn<|Y a (G a-1-c) 0) i 0=if i<min (c+1) (n+1)then(dA (Y b n 0)⁻¹ a b n m (c-n)).2.getD (G a-(c+1)+i) 0 else 0:=by
 rw[Wa]
 have k:(dA (Y b n 0)⁻¹ a b n m (c-n)).2.getD (G a-(c+1)) 0=Y a (G a-1-c) 0:=by
  rw[(S:G a-(c+1)=G a-1-c)];by_cases l:c<n
  .rw[(S:c-n=0)];rfl
  .exact agf S g _ S _ S
 cases i with
 |zero=>rw[s J,s S,jE,k]
 |succ i=>
  rw[M S,eJ,f.rg]
  by_cases d:i<min c n
  .rw[s d,s S,(S:G a-(c+1)+(i+1)=G a-c+i)]
  .rw[M d,M S]
def sH.step(B:sH a b n m c q r)(R:G b=n+1)(U:m=G a-n)(W:Y b n 0≠0)(hc:c<G a){d}(H:d=qe (mJ r) (qn<|Y a (G a-1-c) 0)):
  (G d=n+1->sH a b n m (c+1) (qe (mJ q)<|qn<|Y d n 0/Y b n 0) (Fq d<|sr (Y d n 0/Y b n 0) b))/\(G d≠n+1->sH a b n m (c+1) (mJ q) d)/\G d<=n+1:=by
 have g:=B.r1 R U hc
 rw[<-H]at g
 have k:bY d:=by rw[H];exact age _ _
 have X:G d<=min (c+1) (n+1):=V' k λi l=>by rw[g,M S]
 by_cases o:c<n
 .refine⟨λe=>S,λ_=>⟨sn _,k,λi=>?_,λi=>?_⟩,S⟩
  .rw[M S];cases i with
   |zero=>exact Pf q
   |succ i=>rw[Pg,B.qg,M S]
  .rw[g,(S:c+1-n=c-n)];by_cases l:i<c+1
   .rw[s S,s S]
   .rw[M S,M S]
 obtain⟨j,y⟩:∃j,c=n+j:=⟨c-n,S⟩
 have u:c-n=j:=S
 have p:c+1-n=j+1:=S
 have v:=B.qg
 rw[u]at g v
 have f:=yk (Y b n 0)⁻¹ a b n m j
 have C:dA (Y b n 0)⁻¹ a b n m (j+1)=((dA (Y b n 0)⁻¹ a b n m j).1.set (m-1-j)<|(dA (Y b n 0)⁻¹ a b n m j).2.getD (m-1-j+n) 0*(Y b n 0)⁻¹,lS (dA (Y b n 0)⁻¹ a b n m j).2 (-((dA (Y b n 0)⁻¹ a b n m j).2.getD (m-1-j+n) 0*(Y b n 0)⁻¹)) b<|m-1-j):=rfl
 have x:Y d n 0=(dA (Y b n 0)⁻¹ a b n m j).2.getD (m-1-j+n) 0:=by rw[g,s S,(S:G a-(c+1)+n=m-1-j+n)]
 rw[<-x,<-BW]at C
 generalize ht:Y d n 0/Y b n 0=t at*
 have E:t*Y b n 0=Y d n 0:=by rw[<-ht,Rat.div_mul_cancel W]
 have K:∀i,Y (qe (mJ q)<|qn t) i 0=if i<c+1-n then(dA (Y b n 0)⁻¹ a b n m (c+1-n)).1.getD (G a-(c+1)+i) 0 else 0:=λi=>by
  rw[Wa,p,C];show _=if i<j+1 then Y ((dA (Y b n 0)⁻¹ a b n m j).1.set (m-1-j) t) (G a-(c+1)+i) 0 else 0
  rw[B4 _ _ (by rw[f.1];omega)];cases i with
  |zero=>rw[s J,s S,s S]
  |succ i=>
   rw[M S,eJ,v]
   by_cases l:i<j
   .rw[s l,s S,M S,(S:G a-(c+1)+(i+1)=G a-c+i)]
   .rw[M l,M S]
 have P:∀i,Y (Fq d<|sr t b) i 0=if i<min (c+1) n then(dA (Y b n 0)⁻¹ a b n m (c+1-n)).2.getD (G a-(c+1)+i) 0 else 0:=λi=>by
  rw[agd,Fh,p,C,g];show _=if i<min (c+1) n then Y (lS (dA (Y b n 0)⁻¹ a b n m j).2 (-t) b<|m-1-j) (G a-(c+1)+i) 0 else 0
  by_cases l:i<n
  .rw[s S,s S,lS,vj (by rw[f.2];omega),s S,(S:G a-(c+1)+i-(m-1-j)=i)];grind
  .rw[M (by omega:¬i<min (c+1) n)];by_cases e:i=n
   .subst e;rw[s S,E,g,s S];grind
   .rw[M S,kv b S];grind
 refine⟨λ_=>⟨age _ _,sn _,K,P⟩,λw=>?_,S⟩
 have F:Y d n 0=0:=dQ λF=>by have:=atM F;omega
 have Q:t=0:=by rw[<-ht,F,BW,tG]
 refine⟨sn _,k,λi=>?_,λi=>?_⟩
 .rw[<-K,Wa,Q];cases i with
  |zero=>rw[Pf,s J]
  |succ i=>rw[Pg,M S];rfl
 .rw[<-P,agd,Fh,Q];grind
end
section
variable{a b q r:V O}{n m c:I}
def atN(g:sH a b n m (G a) q r)(p:G b=n+1)(l:m=G a-n):q=eX a b:=by
 have d:G b-1=n:=S;have f:G a+1-G b=m:=S;refine BR g.qc (wI a b)<|ext λi=>?_;rw[kQ,kQ,g.qg,eX,d,f,<-l];by_cases k:i<m
 .rw[s k,M S,Ad,gx,dU]
 .rw[M k];split
  .rfl
  .rw[Ad,kv _<|by rw[(yk ..).1];omega]
def atO(k:sH a b n m (G a) q r)(v:G b=n+1)(l:m=G a-n)(p:bY a):r=iH a b:=by
 have d:G b-1=n:=S;have f:G a+1-G b=m:=S;refine BR k.rc (E5 p)<|ext λi=>?_;rw[kQ,kQ,k.rg,iH,d,f,<-l,gx,dU];by_cases hl:G a<G b
 .rw[s hl];by_cases g:i<G a
  .rw[s S,(S:m=0)];rfl
  .rw[M S,kv a S]
 .rw[M hl,Ad,Ol];by_cases g:i<n
  .rw[s S,s g]
  .rw[M S,M g]
def agh{f:I}(p:1<=f){inv:O}(g:QS f inv)(k:∀d,d<=m->∀i,QS f ((dA inv a b n m d).2.getD i 0)):∀d,d<=m->∀i,QS (2*f) ((dA inv a b n m d).1.getD i 0)
 |0,_,i=>by
  rw[dA,aF,j9];have:QS (2*f) 0:=QS.zero S;by_cases l:i<m
  .rw[s l];exact this
  .rw[M l];exact this
 |d+1,v,i=>by
  rw[dA];show QS _ (Y ((dA inv a b n m d).1.set _ _) i 0);rw[B4 _ _ (by rw[(yk ..).1];omega)];split
  .exact(k d S _).mul g
  .exact agh p g k d S i
def atP(d:bY a)(f:a≠[]):Y a (G a-1) 0≠0:=d.resolve_left f
end
def agi{p}(U:1<=p)(hs:p<=100000000){a b}(hac:bY a)(W:b≠[])(E:E4 p a b):af j 208 [N .q a,N .q b] (.t [(ah,[.S .q (eX a b)]),(ah,[.S .q (iH a b)]),(ah,[.I .i64 0])]):=by
 have Dg:=bX.2 W;obtain⟨n,Q⟩:∃n,G b=n+1:=⟨G b-1,S⟩;obtain⟨m,hm⟩:∃m,m=G a-n:=⟨_,J⟩;have B:=E.bn;have R:=E.qS;rw[(S:G b-1=n)]at B R;rw[(S:G a+1-G b=m)]at R;have la:=E.la;have lb:=E.lb;have qb:=E.qb;have qa:∀i,QS p (Y a i 0):=R 0<|aW _;have X:QS p (Y b n 0)⁻¹ :=(qb n).inv B;have hQ:=agh U X R;have u:∀{k:I},1<=k->QS k (0:O):=λh=>QS.zero h
 have key:∀{c:I}{v r:V O},c<=G a->sH a b n m c v r->(∀i,QS (2*p) (Y v i 0))/\(∀i,QS p (Y r i 0))/\G v<=500/\G r<=500:=λ{c v r} hc d=>by
  refine⟨λi=>?_,λi=>?_,?_,?_⟩
  .rw[d.qg];split
   .exact hQ _ S _
   .exact u S
  .rw[d.rg];split
   .exact R _ S _
   .exact u U
  .have:=V' (n:=c-n) d.qc λi hi=>by rw[d.qg,M S]
   omega
  .have:=V' (n:=min c n) d.rc λi hi=>by rw[d.rg,M S]
   omega
 have w:∀{k:I}{l:V O},1<=k->(∀i,QS k (Y l i 0))->∀i,QS k (Y (mJ l) i 0):=λ{k l} hk h i=>by
  cases i with
  |zero=>rw[Pf];exact u hk
  |succ i=>rw[Pg];exact h i
 have A:∀{k:I}{x:O},1<=k->QS k x->∀i,QS k (Y (qn x) i 0):=λ{k x} hk h i=>by
  rw[V9];split
  .exact h
  .exact u hk
 have qT:∀l:V O,G (mJ l)<=G l+1:=λl=>cQ (z9 _) Ab
 have sM:∀x:O,G (qn x)<=1:=λx=>cQ (z9 _) (by rw[wK];omega)
 refine aD Tryz.func208 ?_;refine e J<|L<|e J<|z J (λh=>?_)<|λh=>ai ?_
 .have h:(G b:Z)=0:=eq_of_beq h;exact absurd h S
 refine t<|rl .q [] J J (o J<|t<|rl .q [] J J (o J<|L<|e J ?_));refine q<|aK (α:=I×V O×V O) (λy=>⟨[(0,N .q a),(1,N .q b),(7,N .q y.2.1),(8,N .q y.2.2),(9,D<|(G a:Z)-1-y.1)],[],20,[]⟩) (λy=>y.1<=G a/\sH a b n m y.1 y.2.1 y.2.2) (λy=>G a-y.1) (0,[],[]) ⟨aW _,sH.start a b n m⟩ (wk ⟨sR J,sR J,sR J,sR J,sE J ?_,T⟩ T) ?_
 .exact aC D (S:(G a:Z)-1=(G a:Z)-1-(0:I))
 rintro⟨c,v,r⟩ ⟨c1,d⟩;simp only at c1 d;let ⟨q1,r1,q2,r2⟩:=key c1 d;refine L<|e J<|z J (λh=>?_)<|λh=>?_
 .have h:c<G a:=by have h:(G a:Z)-1-c>=0:=az h;omega
  have ei:ad ((G a:Z)-1-c)=G a-1-c:=S;let ⟨S1,S2,S3⟩:=d.step Q hm B h J;have C:∀i,QS p (Y (qe (mJ r)<|qn<|Y a (G a-1-c) 0) i 0):=λi=>by
   rw[d.r1 Q hm h];split
   .exact R _ S _
   .exact u U
  have F:=agc<|Y a (ad<|(G a:Z)-1-c) 0;have H:=Vp (mJ r) (qn<|Y a (ad<|(G a:Z)-1-c) 0) (by have:=qT r;omega) (by have:=sM<|Y a (ad<|(G a:Z)-1-c) 0;omega) (w U r1) (A U<|qa _) S;rw[ei]at F H;generalize hsE:qe (mJ r) (qn<|Y a (G a-1-c) 0)=f at*;rw[<-ei]at F H;refine ai<|L<|q<|t<|rc J J (aeD r S)<|rc J J F (rc J J H<|o J ?_) (hp:=ak);refine aO J J (aeD v S) J<|e J<|z J (λK=>?_)<|λK=>bN ?_
  .have K:(G f:Z)=(G b:Z):=eq_of_beq K;have g:G f=n+1:=S;have Ca:f≠[]:=λbZ=>by rw[bZ]at g;cases g
   have hdv:=arj (Y f (G f-1) 0) (Y b (G b-1) 0) (λbZ=>E.bn<|zY bZ) (C _) (qb _) S;rw[g,Q,eJ]at hdv;have EJ:=V7 f Ca S;have EH:=V7 b W S;rw[g,eJ]at EJ;rw[Q,eJ]at EH;have hD:=S1 g;have ht:QS (2*p) (Y f n 0/Y b n 0):=by rw[BW];exact(C n).mul X
   generalize Y f n 0/Y b n 0=P at*;have Pe:=Vo P b S ht (λi=>(qb i).le S) S;have RI:=atI (k:=4*p) f (sr P b) S (cQ (z9 _) bP) (λi=>(C i).le S) (λi=>by rw[Fh];exact(ht.mul<|(qb i).le S).le S) S S;have O6:=Vp (mJ v) (qn P) (by have:=qT v;omega) (by have:=sM P;omega) (w S q1) (A S ht) S;refine t<|rc J J EJ<|rc J J EH<|rc J J hdv<|o J ?_;refine t<|rc J J Pe<|rc J J RI<|o J ?_;refine bs<|rc J J (agc P)<|rc J J O6<|o J ?_;refine aT<|rt J (hp:=ak)<|aA (c+1,qe (mJ v)<|qn P,Fq f<|sr P b) ⟨h,hD⟩ (S:G a-(c+1)<G a-c)<|wk ⟨sR J,sR J,sR J,sR J,sE J ?_,T⟩ T;exact aC D (S:(G a:Z)-1-c-1=(G a:Z)-1-(c+1:I))
  .have K:G f≠n+1:=λbZ=>by have K:(G f:Z)≠(G b:Z):=fT K;omega
   refine aT<|rt J (hp:=ak)<|aA (c+1,mJ v,f) ⟨h,S2 K⟩ (S:G a-(c+1)<G a-c)<|wk ⟨sR J,sR J,sR J,sR J,sE J ?_,T⟩ T;exact aC D (S:(G a:Z)-1-c-1=(G a:Z)-1-(c+1:I))
 .have h:c=G a:=by have h:¬(G a:Z)-1-c>=0:=aL h;omega
  subst h;rw[atN d Q hm,atO d Q hm hac];exact aN<|ay<|e J<|bU J
def atS{s}(f:1<=s)(g:s<=100000000){a b}(c:bY a)(d:b≠[])(E:E4 s a b):af j 141 [N .q a,N .q b] (N .q<|eX a b):=by refine aD Tryz.func141 ?_;exact e J<|aO J J (agi f g c d E) J<|e J<|bU J
def atT{c}(g:1<=c)(i:c<=100000000){a b}(d:bY a)(f:b≠[])(E:E4 c a b):af j 207 [N .q a,N .q b] (N .q<|iH a b):=by refine aD Tryz.func207 ?_;exact e J<|aO J J (agi g i d f E) J<|e J<|bU J
def atU{m}(E:1<=m)(F:m<=100000000) k a b(H:bY a)(P:bY b)(Q:tW m k a b)(R:G (fJ k a b)<=1000)(U:∀i,QS m (Y (fJ k a b) i 0)):af j 139 [N .q a,N .q b] (N .q<|cV<|fJ k a b):=by
 refine aD Tryz.func139 ?_;refine e J<|L<|q<|aK (α:=I×V O×V O) (λx=>⟨[(0,N .q x.2.1),(1,N .q x.2.2)],[],2,[]⟩) (λx=>tW m x.1 x.2.1 x.2.2/\fJ x.1 x.2.1 x.2.2=fJ k a b/\bY x.2.1/\bY x.2.2) (λx=>x.1) (k,a,b) ⟨Q,J,H,P⟩ aM ?_;rintro⟨l,f,g⟩ ⟨h2,c,r,n⟩;simp only at h2 c r n;refine L<|e J<|z J (λd=>?_)<|λd=>?_
 .have p:g≠[]:=λC=>by subst C;cases d
  clear d;cases l with
  |zero=>exact absurd h2 p
  |succ l=>
   rw[tW]at h2
   rcases h2 with h2|⟨h2,K⟩
   .exact absurd h2 p
   rw[fJ,M p]at c
   have v:=atT E F r p h2
   have W:=Jh (a:=f) p
   have u:=h2.lb
   have B:=V8 (iH f g) S h2.qr h2.rn S
   refine bN<|ay<|q<|t<|rc J J v<|rc J J B<|o J<|e J<|rt J<|dy<|aA (l,g,cV<|iH f g) ⟨K,c,n,oC _⟩ (di l) aM
 .have d:g=[]:=by have d:¬(G g:Z)>0:=aL d;exact et S
  subst d;have c:f=fJ k a b:=by
   cases l with
   |zero=>exact c
   |succ l=>rwa[fJ,s J]at c
  rw[c]at r⊢;exact jS<|lJ<|kF<|jT<|ay<|t<|rc J J (V8 _ R U (λX=>atP r X) S)<|o J<|bc<|atR J
def agk{f k g}{a b}(p:bY a)(l:bY b)(c:b≠[])(r:G a<=500)(v:G b<=500)(m:Ht (2^k) (lx a))(n:Ht (2^g) (lx b))(d:k+(g+1)*(G a+1-G b)<32*f)(x:g<32*f):E4 f a b:=by
 let ⟨q1,B,C⟩:=E6 l c m n;refine⟨r,v,l.ne c,λi=>n.qs (m7 x) i,λj E i=>?_,λd=>(E5 p).ne d,λi=>B.qs (m7 d) i⟩;by_cases hl:G b<=G a
 .exact(C hl j E).qs (m7 d) i
 .have:j=0:=by omega
  subst this;exact m.qs (m7 S) i
def Wb{t u}(k:t<=2000)(l:u<=2000){a b}(d:bY a)(f:bY b)(c:b≠[])(m:G a<=9)(n:G b<=9)(g:Ht (2^t) (lx a))(i:Ht (2^u) (lx b)):af j 141 [N .q a,N .q b] (N .q<|eX a b):=by have p:=bX.2 c;have r:(u+1)*(G a+1-G b)<=(u+1)*9:=jw _ S;exact atS (s:=100000000) S S d c<|agk d f c S S g i S S
def agl{t}(x:t<=2000){a b}(f:bY a)(c:bY b)(p:a≠[])(B:G a<=9)(E:G b<=9)(l:Ht (2^t) (lx a))(m:Ht (2^t) (lx b)):∃g,af j 139 [N .q a,N .q b] (N .q g)/\bY g/\zQ (lx g) (lx a) (lx b):=by
 let ⟨C,g2,r⟩:=adW (k:=G b+1) f c S p;obtain⟨s,F⟩:∃s,s=100000000:=⟨_,J⟩;have d:tW s (G b+1) a b/\(∀i,QS s (Y (fJ (G b+1) a b) i 0))/\G (fJ (G b+1) a b)<=500:=by
  rw[tW,fJ];split
  .rename_i e;exact⟨.inl e,λi=>l.qs (m7 S) i,S⟩
  .rename_i e;have H:=bX.2 e;let ⟨q1,v,K⟩:=E6 c e l m;have P:(t+1)*(G a+1-G b)<=(t+1)*9:=jw _ S;have n:3^G b<=19683:=cQ (fG A (S:G b<=9)) A;let ⟨i1,i2,i3⟩:=UQ (s:=s) (G b) (t+(t+1)*(G a+1-G b)) b (cV<|iH a b) c (oC _) (by rcases Ou (a:=a) e with h|h;omega;rw[h,k6];omega) ((Ou (a:=a) e).symm) S
    (m.le<|fG A<|Nat.le_add_right _ _) (adY (E5 f) v) (by refine cQ (jw _ n) ?_;omega)
   exact⟨.inr ⟨agk f c e S S l m S S,i1⟩,i2,i3⟩
 exact⟨_,atU S S (G b+1) a b f c d.1 S d.2.1,g2,r⟩
def kR(n:I):I->I:=λm=>m-n
def agm n a:pF (kR n) a=pF (kW<|n+1) a*pF (kR<|n+1) a:=by rw[<-zP];exact wA λx _=>by unfold kW kR;split<;>omega
def atV{a}(b:FL a){n}{c}(i:zQ c (pF (kW n) a) (pF (kR n) a)):c=pF (kW<|n+1) a:=by
 let ⟨d1,d2,d3,U,V,d4⟩:=i;refine d1.eq (oZ b.mo) ?_ ?_
 .have d:Co c (pF (kP n) a):=xZ d1.ne λQ f q1 k=>by
   let ⟨x,hx,B,l⟩:=wB f k;let ⟨z,g,m,p⟩:=wB f<|dvd_trans q1 d3;have r:x.2=n:=Iv.1 (by have:=BT n x.2;omega);have C:n<z.2:=by unfold kR at m;omega
   have v:x.1=z.1:=(b.fq x hx).eq (b.fq z g) (b.mo x hx) (b.mo z g)<|dvd_trans (f.assoc (b.fq x hx) l) p;exact FL.M9 b.oY hx g (λe=>by rw[e]at r;omega) v
  rw[BU]at d2;exact d.dvd d2
 .rw[d4];exact dvd_add (dz (by rw[BU n a];exact dvd_mul_left _ _) _)<|dz (by rw[agm n a];exact dvd_mul_right _ _) _
def atW{a}(c:bY a)(b:2<=G a):bY (kC a):=by
 right;rw[NS,Ug S,(S:G a-1-1+1=G a-1)];have d:=c.ne (λe=>by rw[e]at b;simp at b);intro e;rcases zM.1 e with e|e
 .have:((G a-1:I):Z)=0:=by exact_mod_cast e
  omega
 .exact d e
def atX{c:I->I}(b:∀m,c m<=m) a:pF c a∣pF id a:=by refine⟨pF (λm=>m-c m) a,?_⟩;rw[<-zP];exact wA λx _=>by have:=b x.2;show x.2=_;omega
def Cp:I->I->V O->V O->V (V O×Z)->V (V O×Z)->Prop
 |0,_,_,_,_,_=>False
 |k+1,n,a,b,acc,out=>if 1<G a then∃p g c,
   af j 139 [N .q a,N .q b] (N .q p)/\af j 141 [N .q a,N .q p] (N .q g)/\af j 141 [N .q b,N .q p] (N .q c)/\
   Cp k (n+1) p c (if 1<G g then acc++[(g,(n:Z))]else acc) out
  else out=acc
def atY(a v B:V O) out(W:G a<=9)(E:¬G a<2){d g F:V O}(H:af j 140 [N .q a] (N .q d))(P:af j 139 [N .q a,N .q d] (N .q g))(Q:af j 142 [N .q a] (N .q F))(R:af j 141 [N .q F,N .q g] (N .q v))
  (U:Cp (G a) 1 v g [] out):af j 73 [N .q a] (N UT out):=by
 refine aD Tryz.func73 ?_
 refine e J<|t<|gR UT [] J J (o J<|L<|e J<|z J (λh=>?_)<|λ_=>ai ?_)
 .have h:(G a:Z)<2:=az h;exact absurd h S
 refine t<|rc J J H<|rc J J P<|o J<|t<|rc J J Q<|rc J J R<|o J<|L<|e J ?_
 refine q<|aK (α:=I×I×V O×V O×V (V O×Z)) (λx=>⟨[(3,.c<|.X 1000000),(4,N .q x.2.2.2.1),(5,N .q x.2.2.1),(6,D x.2.1)],[(1000000,.vec 80 UT x.2.2.2.2)],7,[]⟩) (λx=>Cp x.1 x.2.1 x.2.2.1 x.2.2.2.1 x.2.2.2.2 out/\G x.2.2.2.2<x.2.1/\x.2.1+x.1<=20) (λx=>x.1) (G a,1,v,g,[]) ⟨U,Oj,(S:1+G a<=20)⟩ aM ?_
 rintro⟨k,n,v,B,b⟩ ⟨i,E,C⟩
 simp only at i E C
 cases k with
 |zero=>exact absurd i<|λh=>h
 |succ k=>
  rw[Cp]at i
  refine L<|e J<|z J (λl=>?_)<|λl=>?_
  .have l:1<G v:=by have l:(G v:Z)>1:=az l;omega
   rw[s l]at i;let ⟨p,f,K,d1,d2,d3,i⟩:=i;refine bN<|ay<|L<|q<|t<|rc J J d1<|o J<|t<|rc J J d2<|o J<|oq ⟨[(3,.c<|.X 1000000),(4,N .q B),(6,D n),(7,N .q p)],[(1000000,.vec 80 UT (if 1<G f then b++[(f,(n:Z))]else b))],30,[]⟩ ?_<|λm=>e J<|z J (λr=>?_)<|λr=>bN ?_
   .refine e J<|bs<|rc J J d3<|o J<|aT<|rt J (hp:=ak)<|aA (k,n+1,p,K,if 1<G f then b++[(f,(n:Z))]else b) ⟨i,?_,by show n+1+k<=_;omega⟩ (di k) aM;show G (if 1<G f then b++[(f,(n:Z))]else b)<n+1;split
    .rw[fO];show G b+1<_;omega
    .omega
   .have r:1<G f:=by have r:(G f:Z)>1:=az r;omega
    rw[s r]at m;refine bs<|rl UT [(f,(n:Z))] J J (ra J J J J J J J J J ?_ ?_<|o J ?_)
    .show(G b+1+(G b+1)/4+192)*32<=_;omega
    .show(G b+1)*2<=_;omega
    .exact fH m<|Wk.trans (wk (st':=⟨[(3,.c<|.X 11005000),(4,N .q B),(6,D n),(7,N .q p)],[(11005000,.vec 80 UT<|b++[(f,(n:Z))])],12,[]⟩) (aS J) ⟨bR J,T⟩)<|Wk.trans (fp 1000000 11005000 J J J) aM
   .have r:¬1<G f:=by have r:¬(G f:Z)>1:=aL r;omega
    rw[M r]at m;exact fH m aM
  .have l:¬1<G v:=by have l:¬(G v:Z)>1:=aL l;omega
   rw[M l]at i;rw[i];exact jS<|lJ<|kF<|jT<|ay<|cD 1000000 J J J<|e J<|bc<|atR J
def atZ{t}(ht:t<=1500){a}(ha:bY a)(h0:a≠[])(la:G a<=9)(hA:Ht (2^t) (lx a)){v}(P:FL v)(hF:pF id v=lx (cV a))(hD:∀so,Mo so->so∣pF id v->Ht (2^t) so):
  ∃E,af j 73 [N .q a] (N UT E)/\E.map (λp=>(lx p.1,p.2))=mI v (G a) 1/\∀p∈E,bY p.1:=by
 have hl:=bX.2 h0
 have lm:=Jj ha
 have ki:sz (pF id v)=G a:=by rw[hF,dH<|oC a,lm]
 have Q:∀{c:I->I}{w:V O},(∀m,1<=m->c m<=m)->bY w->lx w=pF c v->G w<=9/\w≠[]/\Ht (2^t) (lx w)/\Mo (lx w):=λ{c w} hc R bZ=>by
  have e2:pF c v=pF (λm=>min (c m) m) v:=wA λx H=>by have:=hc x.2<|P.pos x H;show _=min _ _;omega
  have hm:Mo (lx w):=by rw[bZ];exact oZ P.mo
  have hd:lx w∣pF id v:=by rw[bZ,e2];exact atX (λm=>Nat.min_le_right _ _) v
  have C:=fV hd (oZ P.mo).ne;rw[dH R,ki]at C;exact⟨S,λbZ=>by rw[bZ,tH]at hm;exact hm.ne J,hD _ hm hd,hm⟩
 by_cases h2:G a<2
 .have H:∀x∈v,x.2<1:=λx H=>by have:=Oy P H;omega
  refine⟨[],?_,by rw[Ow _ H];rfl,λp hp=>by cases hp⟩;refine aD Tryz.func73 ?_;refine e J<|rb<|rl UT [] J J (o J<|L<|e J<|z J (λ_=>?_)<|λh=>?_)
  .exact e J<|bc<|bt<|atR J
  .have h:¬(G a:Z)<2:=aL h;exact absurd h S
 have qd:=atW ha S
 have ed:lx (kC a)=bp (lx a):=UM a
 have ld:=NS a
 have td:Ht (2^(t+4)) (lx<|kC a):=by rw[ed];exact(hA.bp (n:=9) (by rw[dH ha];omega) S).le US
 have c1:=atL (k:=100000000) a S (λi=>hA.qs (m7 S) i) S S
 generalize kC a=d at*
 have lift:∀{a b:I}{nZ:Rx},Ht (2^a) nZ->a<=b->Ht (2^b) nZ:=λh Ar=>h.le<|fG A Ar
 let ⟨g,c2,qg,gg⟩:=agl (t:=t+4) (a:=a) (b:=d) S ha qd h0 S S (lift hA S) td
 obtain⟨c,ec⟩:∃c,c=(Y a (G a-1) 0)⁻¹ :=⟨_,J⟩
 have UY:c≠0:=by rw[ec];exact q9<|ha.ne h0
 have eM:lx (cV a)=K c*lx a:=by rw[z' h0,ec]
 have gF:zQ (lx g) (pF id v) (bp<|pF id v):=by let ⟨g1,g2,g3,U,sf,g4⟩:=gg;rw[hF,eM,By];rw[ed]at g3 g4;refine⟨g1,dz g2 _,dz g3 _,U*K c⁻¹,sf*K c⁻¹,?_⟩;have e1:U*K c⁻¹ *(K c*lx a)+sf*K c⁻¹ *(K c*bp (lx a))=(K c⁻¹ *K c)*(U*lx a)+(K c⁻¹ *K c)*(sf*bp (lx a)):=eT;rw[e1,ov UY,one_mul,one_mul];exact g4
 let ⟨eg,_⟩:=abv P gF
 have eg:lx g=pF (kR 1) v:=eg
 have hkW:∀n m,1<=m->kW n m<=m:=λn m h=>cQ (Nb n m) h
 have hkR:∀n m,1<=m->kR n m<=m:=λn m _=>Nat.sub_le _ _
 let ⟨g9,g0,tg,mg⟩:=Q (hkR 1) qg eg
 have c3:=V8 (k:=100000000) a S (λi=>hA.qs (m7 S) i) (λ_=>ha.ne h0) S
 have c4:=Wb (t:=t) (u:=t) (a:=cV a) (b:=g) S S (oC a) qg g0 S g9 (by rw[<-hF];exact hD _ (oZ P.mo)<|dvd_refl _) tg
 have Oz:lx (eX (cV a) g)=pF (kW 1) v:=qN mg.ne ((rZ (oC a) qg g0<|hF▸gF.l).symm.trans<|by rw[<-hF,Iw P,eg];rfl)
 have qw:=wI (cV a) g
 generalize eX (cV a) g=w1 at*
 have run:∀(k n:I)(w y:V O)(F:V (V O×Z)),n+k=G a+1->1<=k->1<=n->bY w->bY y->lx w=pF (kW n) v->lx y=pF (kR n) v->∃B,Cp k n w y F (F++B)/\B.map (λp=>(lx p.1,p.2))=mI v k n/\∀p∈B,bY p.1:=by
  intro k;induction k with
  |zero=>intro n w y F _ h;omega
  |succ k ih=>
   intro n w y F hnk _ hn R hy X ey
   let ⟨w9,w0,tw,mw⟩:=Q (hkW n) R X
   let ⟨y9,y0,ty,my⟩:=Q (hkR n) hy ey
   by_cases hc:1<G w
   .obtain⟨x,H,hxn⟩:∃x∈v,n<=x.2:=dQ λT=>by
     have e1:pF (kW n) v=1:=Na λx H=>M λh=>T ⟨x,H,h⟩
     rw[e1]at X;have:=dH R;rw[X,np]at this;omega
    have V1:=Oy P H;let ⟨p,d1,qp,gp⟩:=agl (t:=t) (a:=w) (b:=y) S R hy w0 w9 y9 tw ty;rw[X,ey]at gp;have ep:=atV P gp;let ⟨p9,p0,tp,mp⟩:=Q (hkW<|n+1) qp ep;have d2:=Wb (t:=t) (u:=t) S S R qp p0 w9 p9 tw tp;have d3:=Wb (t:=t) (u:=t) S S hy qp p0 y9 p9 ty tp;have eg2:lx (eX w p)=pF (kP n) v:=qN mp.ne ((rZ R qp p0<|by rw[X];exact gp.l).symm.trans<|by rw[X,ep];exact BU n v);have ez:lx (eX y p)=pF (kR<|n+1) v:=qN mp.ne ((rZ hy qp p0<|by rw[ey];exact gp.r).symm.trans<|by rw[ey,ep,mul_comm<|pF (kR<|n+1) v];exact agm n v);have qg2:=wI w p;have qz:=wI y p;generalize eX w p=f at*;generalize eX y p=g6 at*;let ⟨B,o1,o2,o3⟩:=ih (n+1) p g6 (if 1<G f then F++[(f,(n:Z))]else F) S S S qp qz ep ez;have hfs:sz (pF (kP n) v)=G f:=by rw[<-eg2,dH qg2]
    refine⟨(if 1<G f then[(f,(n:Z))]else[])++B,?_,?_,?_⟩
    .rw[Cp,s hc];refine⟨p,f,g6,d1,d2,d3,?_⟩;by_cases C:1<G f
     .rw[s C]at o1⊢;rw[s C,<-jR];exact o1
     .rw[M C]at o1⊢;rw[M C];exact o1
    .rw[mI,fe,o2,hfs];by_cases C:1<G f
     .rw[s C,s C,gZ,wj,eg2]
     .rw[M C,M C];rfl
    .intro q W;rcases b8.1 W with W|W
     .by_cases C:1<G f
      .rw[s C,iu]at W;rw[W];exact qg2
      .rw[M C]at W;cases W
     .exact o3 q W
   .have T:∀x∈v,x.2<n:=λx H=>Iu λh=>by have C:=fV (BS (c:=kW n) H<|by rw[zR.2 h];omega) (oZ P.mo).ne;have h2:=(P.fq x H).1;rw[<-X,dH R]at C;omega
    refine⟨[],?_,by rw[Ow _ T];rfl,λp hp=>by cases hp⟩;rw[Cp,M hc,iW]
 let ⟨E,o1,o2,o3⟩:=run (G a) 1 w1 g [] S S S qw qg Oz eg
 exact⟨E,atY a w1 g E la h2 c1 c2 c3 c4 o1,o2,o3⟩
open Classical in
noncomputable def mL(b:V O):V (V O):=if e:∃a,((∀u∈a,Y u (G u-1) 0=1/\bY u/\Mo (lx u)/\bw (lx u))/\n9 a=lx b)/\af j 74 [N .q b] (N (.sl .q) a)then Classical.choose e else[]
def agr{b}(d:jC b)(f:∀i,QS 20 (Y b i 0)):((∀a∈mL b,Y a (G a-1) 0=1/\bY a/\Mo (lx a)/\bw (lx a))/\n9 (mL b)=lx b)/\af j 74 [N .q b] (N (.sl .q)<|mL b):=by let ⟨l,g,g2,k⟩:=atA d f;have e:∃c,((∀a∈c,Y a (G a-1) 0=1/\bY a/\Mo (lx a)/\bw (lx a))/\n9 c=lx b)/\af j 74 [N .q b] (N (.sl .q) c):=⟨_,d.unG g g2,k⟩;unfold mL;rw[dif_pos e];exact qL e
def at1{ir:V O->V (V O)}{a}{i}(c:i<G a):fM ir (y (i+1) a)=fM ir (y i a)++(ir (Y a i cR).1).map (λd=>(d,(Y a i cR).2))/\∃C,fM ir a=fM ir (y (i+1) a)++C:=by
 have b:y (i+1) a=y i a++[Y a i cR]:=by rw[mM,aF,bD c];rfl
 refine⟨?_,fM ir<|aE (i+1) a,?_⟩
 .rw[b,fM,fM,uC];simp
 .rw[fM,fM,fM,<-uC,ri]
def ags{a:V O}(g:kD a):∃Q,lD a Q/\G Q<=8/\(∀x∈Q,oD 20 x)/\af j 19 [N .q a] (.t [(ae,av .q<|Y a (G a-1) 0),(ah,[.S UT Q]),(ah,[.I .i64 0])]):=by
 let ⟨ns,hL,K⟩:=Rx.Td _ (Rx.lx<|cV a) (di _) g.mo;let ⟨out,o1,o2,o3⟩:=atZ (t:=1500) S g.can g.ne g.l9 g.hA hL K<|λso hD hd=>(g.ht hD<|K▸hd).le<|Rx.Jl 1500 (k:=600) A;let ⟨p1,R,p3,p4,p5,p6⟩:=g.aew (ir:=mL) (λEP g hq=>(agr g hq).1) hL K o2 o3;let ⟨a1,a2⟩:=V4 _ (fM mL out) J;refine⟨rf<|fM mL out,⟨λx U=>p4 x<|a1.mem_iff.1 U,by rw[aen a1,p5],a1.symm.pairwise p6 (λg W=>g W.symm),atv a2⟩,by rw[a1.length_eq];exact R,λx U=>p3 x<|a1.mem_iff.1 U,?_⟩;refine aD Tryz.func19 ?_;have la:=bX.2 g.ne;have l9:=g.l9;have Gn:G out<=9:=by have h1:=Vh (L:=ns) (G a) 1;rw[<-o2,cL]at h1;omega
 refine e J<|L<|e J<|z J (λh1=>?_)<|λ_=>ai ?_
 .exfalso;have h1:((G a:Z)==0)=ae:=h1;have:=eq_of_beq h1;omega
 refine L<|e J<|z J (λh1=>?_)<|λ_=>ai ?_
 .exfalso;have h1:(G a:Z)>13:=az h1;omega
 refine t<|rl UT [] J J (o J<|aO J J o1 J<|L<|e J ?_);refine q<|aK (α:=I) (λi=>⟨[(0,N .q a),(2,.c<|.P 0 0),(5,N UT<|rf<|fM mL<|y i out),(6,N UT out),(7,D i)],[(0,.box 46 0 [.B ah,.V<|.slice none 0 0,.B ah,.V<|.slice none 0 0])],20,[]⟩) (λi=>i<=G out) (λi=>G out-i) 0 (aW _) (wk ⟨sR J,sR J,sE J J,sR J,sR J,T⟩ ⟨bE J J,T⟩) ?_;intro i hi;refine L<|e J<|z J (λh1=>?_)<|λh1=>?_
 .have h1:i<G out:=by have h1:(i:Z)<(G out:Z):=az h1;omega
  have X:i+1<=G out:=h1;have s:(Y out (ad<|(i:Z))<|ET.cJ UT)=Y out i cR:=aC (λw=>Y out w cR)<|aV i;let ⟨g1,g2,g3⟩:=p1 (Y out i cR) z8;have E:=(agr g1 g2).2;let ⟨n,C,M⟩:=at1 (ir:=mL) h1;rw[<-s]at E n;generalize Dm:mL (Y out (ad<|(i:Z))<|ET.cJ UT).1=us at*;generalize hm:(Y out (ad<|(i:Z))<|ET.cJ UT).2=m at*;have xq:G us<=8:=by have h3:=R;rw[M,n,fO,fO,cL]at h3;omega
  refine ai<|L<|q<|t<|rc J J E (o J<|e J ?_) (hp:=ak);refine q<|aK (α:=I) (λb=>⟨[(0,N .q a),(2,.c<|.P 0 0),(5,N UT<|rf<|fM mL (y i out)++(y b us).map λu=>(u,m)),(6,N UT out),(7,D i),(8,N (.sl .q) us),(9,D b)],[(0,.box 46 0 [.B ah,.V<|.slice none 0 0,.B ah,.V<|.slice none 0 0])],30,[]⟩) (λb=>b<=G us) (λb=>G us-b) 0 (aW _) (wk ⟨sR J,sR J,sE J ?_,sR J,sR J,sR J,sR J,T⟩ ⟨bR J,T⟩) ?_
  .rw[Bh,wj,iW]
  intro b hj;refine L<|e J<|z J (λl=>?_)<|λl=>?_
  .have l:b<G us:=by have l:(b:Z)<(G us:Z):=az l;omega
   have F:(Y us (ad<|(b:Z))<|ET.cJ<|.sl .q)=us.getD b []:=aC (λw=>us.getD w [])<|aV b;have Vb:y (b+1) us=y b us++[us.getD b []]:=by rw[mM,aF,bD l];rfl
   have v:∀p∈fM mL (y i out)++us.map (λu=>(u,m)),oD 20 p:=λp r=>p3 p (by rw[M,n];exact fC _ r)
   have H:∀p∈fM mL (y i out)++(y b us).map (λu=>(u,m)),oD 20 p:=λp r=>v p (by
    rcases b8.1 r with r|r
    .exact fC _ r
    .obtain⟨u,hu,rfl⟩:=kY.1 r;exact jo _<|Od (f:=λu=>(u,m))<|Ai hu)
   have hlen:G (fM mL (y i out)++(y b us).map (λu=>(u,m)))<=8:=by have h3:=R;rw[M,n,fO,fO,cL]at h3;rw[fO,cL,il];omega
   let ⟨b1,_⟩:=V4 _ (fM mL (y i out)++(y b us).map (λu=>(u,m))) J;have d:=asL (rf<|fM mL (y i out)++(y b us).map (λu=>(u,m))) (us.getD b [],m) (by rw[b1.length_eq];omega) (v _<|jo _<|Od (f:=λu=>(u,m))<|by rw[aF,bD l];exact j6 l)<|λp r=>H p<|b1.mem_iff.1 r;have d:af j 75 [N UT (rf<|fM mL (y i out)++(y b us).map (λu=>(u,m))),.a<|av UT (us.getD b [],m)] (N UT<|rf<|fM mL (y i out)++(y (b+1) us).map (λu=>(u,m))):=by rw[Vb,fe,<-jR,gZ,wj,af6];exact d
   have d:af j 75 [N UT (rf<|fM mL (y i out)++(y b us).map (λu=>(u,m))),.a<|av UT (Y us (ad<|(b:Z))<|ET.cJ<|.sl .q,(Y out (ad<|(i:Z))<|ET.cJ UT).2)] (N UT<|rf<|fM mL (y i out)++(y (b+1) us).map (λu=>(u,m))):=by rw[F,hm];exact d
   refine ai<|L<|q<|bs<|rc J J d (o J<|aT<|rt J (hp:=ak)<|aA (b+1) l (S:G us-(b+1)<G us-b) aM) (hp:=ak)
  .have l:b=G us:=by have l:¬(b:Z)<(G us:Z):=aL l;omega
   subst l;rw[eE,<-n];exact aN<|aT<|rt J (hp:=ak)<|aA (i+1) X (S:G out-(i+1)<G out-i) aM
 .have h1:i=G out:=by have h1:¬(i:Z)<(G out:Z):=aL h1;omega
  subst h1;rw[eE];refine aN<|ay ?_;refine e J (hp:=ak)<|bq J ?_;have W:ad ((G a:Z)-1)=G a-1:=S;show AV.t [(ae,av .q<|Y a (ad<|(G a:Z)-1) 0),(ah,[C.S UT (rf<|fM mL out)]),(ah,[.I .i64 0])]=_;rw[W]
def JB:V (V O×Z)->Bool
 |[x]=>x.2==1
 |_=>ah
def agt{a}(b:G a≠1):JB a=ah:=by
 match a with
 |[]=>rfl
 |[x]=>exact absurd J b
 |x::y::l=>rfl
def at2{a:V O}{b:V (V O×Z)}{c:O}(d:af j 72 [N .q a] (.t [(ae,av .q c),(ah,[.S UT b]),(ah,[.I .i64 0])])):af j 22 [N .q a] (cB<|JB b):=by
 refine aD Tryz.func22 ?_;refine e J<|aO J J d J<|t<|rg 14 J J (λ_=>rg 19 J J (λh=>?_)<|λh=>?_)<|λh=>bS
 .have h:(G b:Z)=1:=eq_of_beq h;obtain⟨x,rfl⟩:=List.length_eq_one_iff.1 (S:G b=1);exact o J<|bq J J
 .have h:(G b:Z)≠1:=fT h;exact o J<|bq J<|aC cB (agt S).symm
def at3{a:V O}{b:V (V O×Z)}{c:O}(d:af j 19 [N .q a] (.t [(ae,av .q c),(ah,[.S UT b]),(ah,[.I .i64 0])])):af j 23 [N .q a] (cB<|JB b):=by
 refine aD Tryz.func23 ?_;refine e J<|aO J J d J<|t<|rg 14 J J (λ_=>rg 19 J J (λh=>?_)<|λh=>?_)<|λh=>bS
 .have h:(G b:Z)=1:=eq_of_beq h;obtain⟨x,rfl⟩:=List.length_eq_one_iff.1 (S:G b=1);exact o J<|bq J J
 .have h:(G b:Z)≠1:=fT h;exact o J<|bq J<|aC cB (agt S).symm
def at4{a:V O}{b:V (V O×Z)}{i:O}(p:G b<=8)(k:af j 19 [N .q a] (.t [(ae,av .q i),(ah,[.S UT b]),(ah,[.I .i64 0])])):af j 25 [N .q a] (N .q (eZ b).reverse):=by
 refine aD Tryz.func25 ?_;refine e J<|aO J J k J<|t<|gR .q [] J J (o J<|L<|e J ?_);refine q<|aK (α:=I) (λd=>⟨[(4,N UT b),(6,.c<|.X 2000000),(7,D<|(G b:Z)-1-d)],[(2000000,.vec 46 .q (eZ<|aE (G b-d) b).reverse)],4,[]⟩) (λd=>d<=G b) (λd=>G b-d) 0 (aW _) (wk ⟨sR J,sR J,sE J ?_,T⟩ ⟨bE J ?_,T⟩) ?_
 .exact aC D (S:(G b:Z)-1=(G b:Z)-1-(0:I))
 .rw[wb,BO];rfl
 intro d r;have v:(eZ<|aE (G b-d) b).reverse.length<=8:=by have:=Fg<|aE (G b-d) b;rw[yX]at this;rw[List.length_reverse];omega
 refine L<|e J<|z J (λh=>?_)<|λh=>?_
 .have h:d<G b:=by have h:(G b:Z)-1-d>=0:=az h;omega
  have l:ad ((G b:Z)-1-d)=G b-1-d:=S;have m:aE (G b-(d+1)) b=Y b (ad<|(G b:Z)-1-d) cR::aE (G b-d) b:=by rw[l,(S:G b-(d+1)=G b-1-d),lY S,(S:G b-1-d+1=G b-d),aF,bD S];rfl
  have g:(eZ<|aE (G b-(d+1)) b).reverse=(eZ<|aE (G b-d) b).reverse++(if(Y b (ad<|(G b:Z)-1-d) cR).1.length=2 then[-((Y b (ad<|(G b:Z)-1-d) cR).1.getD 0 0)]else[]):=by
   rw[m,eZ,List.reverse_append];by_cases f:(Y b (ad<|(G b:Z)-1-d) cR).1.length=2
   .rw[s f];rfl
   .rw[M f];rfl
  generalize (eZ<|aE (G b-d) b).reverse=acc at*;refine ai<|L<|q<|e J (hp:=ak)<|z J (λf=>?_)<|λf=>bN ?_
  .have f:(Y b (ad<|(G b:Z)-1-d) cR).1.length=2:=by have f:((Y b (ad<|(G b:Z)-1-d) cR).1.length:Z)=2:=eq_of_beq f;omega
   rw[s f]at g;refine bs<|rc J J (arh<|(Y b (ad<|(G b:Z)-1-d) cR).1.getD 0 0) (rl .q [-((Y b (ad<|(G b:Z)-1-d) cR).1.getD 0 0)] J J (ra J J J J J J J J J ?_ ?_<|o J ?_)) (hp:=?_)
   .show(G acc+1+(G acc+1)/4+192)*64<=_;omega
   .show(G acc+1)*4<=_;omega
   .refine aT (rt J (hp:=ak)<|aA (d+1) h (S:G b-(d+1)<G b-d)<|Wk.trans (wk (st':=⟨[(4,N UT b),(6,.c<|.X 6010000),(7,D<|(G b:Z)-1-(d+1:I))],[(6010000,.vec 46 .q (eZ<|aE (G b-(d+1)) b).reverse)],20,[]⟩) ⟨sR J,sR J,sE J ?_,T⟩ ⟨bE J ?_,T⟩)<|Wk.trans (fp 2000000 6010000 J J J) aM)
    .exact aC D (S:(G b:Z)-1-d-1=(G b:Z)-1-(d+1:I))
    .rw[g]
   .have n:(Y b (ad<|(G b:Z)-1-d)<|ET.cJ UT).1.length=2:=f;simp only[Pr.an,Pr.h,num,eO,true_and,and_true];omega
  .have f:¬(Y b (ad<|(G b:Z)-1-d) cR).1.length=2:=λx=>by have f:((Y b (ad<|(G b:Z)-1-d) cR).1.length:Z)≠2:=fT f;omega
   rw[M f,iW]at g;refine aT<|rt J (hp:=ak)<|aA (d+1) h (S:G b-(d+1)<G b-d)<|wk ⟨sR J,sR J,sE J ?_,T⟩ ⟨bE J ?_,T⟩
   .exact aC D (S:(G b:Z)-1-d-1=(G b:Z)-1-(d+1:I))
   .rw[g]
 .have h:d=G b:=by have h:¬(G b:Z)-1-d>=0:=aL h;omega
  subst h;rw[gx,rI];exact jS<|lJ<|kF<|jT<|ay<|cD 2000000 J J J<|e J<|bc<|atR J
def at5{x a}(d:G x=2)(g:G a=2)(b:Y x (G x-1) 0=1)(c:Y a (G a-1) 0=1)(f:ik x a<=0):Y x 0 0<=Y a 0 0:=by
 rw[d]at b;rw[g]at c;have b:Y x 1 0=1:=b;have c:Y a 1 0=1:=c;rw[ik,M (λe=>e<|by rw[d,g]),d,mh,b,c,M<|λe=>e<|Jz.2 J,mh]at f;by_cases e:eK (Y x 0 0) (Y a 0 0)=0
 .rw[Jz.1 e];exact Rat.le_refl
 .rw[s e]at f;exact Fp.1 f
def agu:∀{fs:V (V O×Z)},(∀x∈fs,Y x.1 (G x.1-1) 0=1)->fs.Pairwise qm->(eZ fs).Pairwise (λx a=>a<=x)
 |[],_,_=>wu
 |x::l,b,hp=>by
  let ⟨p1,f⟩:=im.1 hp;have c:=agu (fs:=l) (λa hy=>b a mV) f;rw[eZ];by_cases e:G x.1=2
  .rw[s e];refine tD.2 ⟨Ib _ _,c,λr g n i=>?_⟩;rw[iu.1 g];let ⟨a,d,k,m⟩:=Cf i;rw[m];exact Rat.neg_le_neg<|at5 e k (b x ax) (b a<|by simp[d])<|p1 a d
  .rw[M e];exact c
def at6{a}{b}(d:lD a b):rL b=(eZ b).reverse:=by
 have m:(eZ b).reverse.Pairwise (λx y:O=>x<=y):=List.pairwise_reverse.2<|agu (λx p=>(d.ok x p).1)<|V3 d.OJ;have g:∀k(l:k<G (rL b)),Y (rL b) k 0=(rL b)[k]:=λk l=>by rw[aF,bD l];rfl
 have f:∀n i,i+n+1<G (rL b)->Y (rL b) i 0<=Y (rL b) (i+n+1) 0:=by
  intro n;induction n with
  |zero=>intro i c;exact ON<|Vs d c
  |succ n r=>intro i c;exact Rat.le_trans (r i S)<|ON<|Vs d c
 have v:(rL b).Pairwise (λx y:O=>x<=y):=vi.2 λi j c B C=>by have:=f (j-i-1) i S;rw[(S:i+(j-i-1)+1=j),g i c,g j B]at this;exact this
 exact List.Perm.eq_of_pairwise (λ_ _ _ _ E F=>O' E F) v m<|(Jt b).trans (List.reverse_perm _).symm
def JC{a:Z}(b:(a !=a)=ae):False:=bne_iff_ne.1 b J
def agv{fs}(n:G fs<=8)(f:∀x∈fs,oD 20 x):af j 21 [N UT fs,N UT fs] (cB ae):=by
 refine aD Tryz.func21 ?_;refine e J<|L<|e J<|z J (λh=>(JC h).elim)<|λ_=>ai ?_;refine L<|e J<|q<|aK (α:=I) (λi=>⟨[(0,N UT fs),(1,N UT fs),(5,D i)],[],10,[]⟩) (λi=>i<=G fs) (λi=>G fs-i) 0 (aW _) aM ?_;intro i p;refine L<|e J<|z J (λh=>?_)<|λh=>?_
 .have h:i<G fs:=by have h:(i:Z)<(G fs:Z):=az h;omega
  have g:ad ((i:Z))=i:=aV i;have c:=f (Y fs (ad<|(i:Z))<|ET.cJ UT) (by rw[g,aF,bD h];exact j6 h);have m:=c.l;refine ai<|L<|q<|L<|t<|rg 29 J J (λb=>(JC b).elim) (λ_=>o J ?_ (hp:=ak)) (hp:=ak);refine z J (λb=>(JC b).elim)<|λ_=>ai<|e J ?_;refine q<|aK (α:=I) (λa=>⟨[(0,N UT fs),(1,N UT fs),(5,D i),(6,D a)],[],20,[]⟩) (λa=>a<=(Y fs (ad<|(i:Z))<|ET.cJ UT).1.length) (λa=>(Y fs (ad<|(i:Z))<|ET.cJ UT).1.length-a) 0 (aW _) aM ?_;intro a r;refine L<|e J (hp:=ak)<|z J (λb=>?_)<|λb=>?_
  .have b:a<(Y fs (ad<|(i:Z))<|ET.cJ UT).1.length:=by have b:(a:Z)<((Y fs (ad<|(i:Z))<|ET.cJ UT).1.length:Z):=az b;omega
   have v:ad ((a:Z))=a:=aV a;have d:=OR (k:=20) ((Y fs (ad<|(i:Z))<|ET.cJ UT).1.getD (ad<|(a:Z)) 0) ((Y fs (ad<|(i:Z))<|ET.cJ UT).1.getD (ad<|(a:Z)) 0) (c.q _) S;rw[jU J]at d;refine ai<|L<|q<|t<|rc J J d (o J<|z J (λh=>bS)<|λ_=>bN<|aT<|rt J (hp:=ak)<|aA (a+1) b (S:(Y fs (ad<|(i:Z))<|ET.cJ UT).1.length-(a+1)<(Y fs (ad<|(i:Z))<|ET.cJ UT).1.length-a) aM) (hp:=ak)
  .exact aN<|aT<|rt J (hp:=ak)<|aA (i+1) h Vi aM
 .exact aN<|ay<|e J<|bU J
end Go.El
namespace Go.El
open Go Go.Proofs Go.RowKit
def at7 a(l:G a<=1000)(c:∀i,Sm (Y a i 0))(d:a≠[]->Y a (G a-1) 0≠0):af j 165 [N .z a] (cB ae):=by
 refine aD Tryz.func165 ?_;refine rr J<|L<|rr J ?_;refine q<|aK (α:=I) (λi=>⟨[(0,N .z a),(3,D i)],[],10,[]⟩) (λi=>i<=G a) (λi=>G a-i) 0 (aW _) aM ?_;intro i m;refine L<|rr J<|z J (λh=>?_)<|λh=>?_
 .have h:i<G a:=by have h:(i:Z)<(G a:Z):=az h;omega
  refine ai<|L<|q<|t<|rc J J (ark (Y a (ad<|(i:Z)) 0)<|c _) (o J<|z J (λh=>bS)<|λ_=>bN<|aT<|rt J (hp:=ak)<|aA (i+1) h ka aM) (hp:=ak)
 .refine aN<|ay ?_;refine t (rg 19 J J (λb=>?_)<|λb=>?_)
  .exact o J<|bU J
  .have b:G a≠0:=by have b:(G a:Z)≠0:=fT b;omega
   have f:=d<|λe=>b sK;have g:ad ((G a:Z)-1)=G a-1:=S;have k:=vV<|Y a (ad<|(G a:Z)-1) 0;refine eI J J J J J k (o J<|bq J<|aC cB ?_) (hp:=iM);show(cq (Y a (ad<|(G a:Z)-1) 0) !=0)=ae;rw[g];exact bne_iff_ne.2 λe=>f<|tE.1 e
open Fx
def agw{p}(H:aX p){g}(a:aY p g):au (md p g)=g:=by
 have e:(fx (au<|md p g):Fx p)=fx g:=by rw[pK,D6]
 exact Bq (gH H.pos<|pH H.pos g) a<|Fx.mk_eq.1 e
def at8{p}(H:aX p)(pm:p<=2147483647){a}{l}(la:G a<=12)(ha:∀i,Sm (Y a i 0))(hc:a≠[]->Y a (G a-1) 0≠0)(E:∀g∈l,Mon p g/\2<=G g)(ll:G l<=90)(hd:b7 l<=90)(R:l.Pairwise (λx dT=>Co (fx x:Fx p)<|fx dT)){k:I}(k9:k<=200):
  af j 98 [N .z a,N (.sl u) l,cU p,D k] (cB<|decide (1<=k)&&(decide (a≠[]/\Y a (G a-1) 0=1)&&decide (iS p l (G l)=au (md p a)))):=by
 have U:=H.hp.1
 refine aD Tryz.func98 ?_
 refine rr J<|L<|t<|rc J J (LP p H.hp pm)<|rg 14 J J (λh=>bS)<|λ_=>rg 18 J J (λF=>?_)<|λF=>?_
 .have F:(k:Z)<1:=az F;rw[show decide (1<=k)=ah from iX S];exact rg 22 J J (λ_=>rg 27 J J (λ_=>rg 32 J J (λ_=>o J<|z J (λ_=>rr J<|bc<|bt<|atR J)<|λh=>bS)<|λh=>bS)<|λh=>bS)<|λh=>bS
 have F:¬(k:Z)<1:=aL F
 rw[show decide (1<=k)=ae from jU S,A4]
 refine rg 22 J J (λn=>?_)<|λ_=>rg 27 J J (λn=>?_)<|λn=>?_
 .have n:(k:Z)>200:=az n;omega
 .have n:(G a:Z)=0:=eq_of_beq n;have W:a=[]:=et S;rw[show decide (a≠[]/\Y a (G a-1) 0=1)=ah from iX<|λh=>h.1 W];exact rg 32 J J (λ_=>o J<|z J (λ_=>rr J<|bc<|bt<|atR J)<|λh=>bS)<|λh=>bS
 have n:G a≠0:=by have n:(G a:Z)≠0:=fT n;omega
 have W:a≠[]:=λe=>n sK
 have w:ad ((G a:Z)-1)=G a-1:=S
 refine eI J J J J J (at7 a S ha hc)<|rg 32 J J (λh=>bS)<|λ_=>?_
 refine eI J J J J J (kp 1 A A) ?_ (hp:=iM)
 refine eI J J J J J (KP (Y a (ad<|(G a:Z)-1) 0) 1)<|o J<|z J (λf=>?_)<|λf=>ai ?_
 .have f:cX (Y a (ad<|(G a:Z)-1) 0) 1≠0:=bne_iff_ne.1 f;rw[w]at f;have X:Y a (G a-1) 0≠1:=λe=>f sK
  rw[show decide (a≠[]/\Y a (G a-1) 0=1)=ah from iX<|λh=>X h.2];exact rr J<|bc<|bt<|atR J
 have f:(cX (Y a (ad<|(G a:Z)-1) 0) 1 !=0)=ah:=f
 have f:cX (Y a (ad<|(G a:Z)-1) 0) 1=0:=bne_eq_false_iff_eq.1 f
 rw[w]at f
 have X:Y a (G a-1) 0=1:=by unfold cX at f;split at f<;>(try split at f)<;>omega
 rw[show decide (a≠[]/\Y a (G a-1) 0=1)=ae from jU ⟨W,X⟩,A4]
 refine L<|rr J<|q<|aK (α:=I) (λi=>⟨[(0,N .z a),(1,N (.sl u) l),(2,cU p),(9,D i)],[],10,[]⟩) (λi=>i<=G l) (λi=>G l-i) 0 (aW _) aM ?_
 intro i hi
 refine L<|rr J<|z J (λr=>?_)<|λr=>?_
 .have r:i<G l:=by have r:(i:Z)<(G l:Z):=az r;omega
  have B:∀b,b<G l->Y l (ad<|(b:Z)) (ET.cJ<|.sl u)=l.getD b []:=λb _=>aC (λV=>l.getD V [])<|aV b
  have M:∀b,b<G l->Mon p (l.getD b [])/\2<=G (l.getD b [])/\G (l.getD b [])<=91:=λb s=>by
   have C:l.getD b []∈l:=by rw[aF,bD s];exact j6 s
   let ⟨m1,O⟩:=E _ C;have:=O8 C;exact⟨m1,O,S⟩
  let ⟨m1,O,m3⟩:=M i r;have m:=B i r;have ht:af j 11 [N u (Y l (ad<|(i:Z))<|ET.cJ<|.sl u),cU p] (N u<|l.getD i []):=by have:=uO (l.getD i []) p S H.pos S<|λb=>(m1.c.1 b).1;rw[agw H m1.c]at this;rw[m];exact this
  have hs:af j 13 [N u (Y l (ad<|(i:Z))<|ET.cJ<|.sl u),N u<|l.getD i []] (cB ae):=by have:=LZ (l.getD i []) (l.getD i []) S;rw[jU J]at this;rw[m];exact this
  have hGl:G (Y l (ad<|(i:Z))<|ET.cJ<|.sl u)=G (l.getD i []):=by rw[m]
  refine ai<|L<|q<|L<|t<|rg 55 J J (λd=>?_)<|λ_=>?_
  .exfalso;have d:(G (Y l (ad<|(i:Z))<|ET.cJ<|.sl u):Z)<2:=az d;omega
  refine eI J J J J J ht ?_ (hp:=iM);refine eI J J J J J hs<|rg 69 J J (λh=>bS)<|λ_=>o J ?_ (hp:=iM);refine z J (λd=>?_)<|λ_=>ai<|rr J ?_
  .exfalso;have d:(Y (Y l (ad<|(i:Z))<|ET.cJ<|.sl u) (ad<|(G (Y l (ad<|(i:Z))<|ET.cJ<|.sl u):Z)-1) 0 !=1)=ae:=d;rw[m,(S:ad ((G (l.getD i []):Z)-1)=G (l.getD i [])-1),m1.one]at d;cases d
  refine q<|aK (α:=I) (λb=>⟨[(0,N .z a),(1,N (.sl u) l),(2,cU p),(9,D i),(10,D b)],[],20,[]⟩) (λb=>b<=i) (λb=>i-b) 0 (aW _) aM ?_;intro b s;refine L<|rr J<|z J (λd=>?_)<|λd=>?_
  .have d:b<i:=by have d:(b:Z)<(i:Z):=az d;omega
   have v:b<G l:=S;let ⟨T,n2,n3⟩:=M b v;have K:Co (fx (l.getD i []):Fx p) (fx<|l.getD b []):=by have h6:=vi.1 R b i v r d;rw[aF,aF,bD v,bD r];exact h6.symm
   have P:=Bt p H.hp H.le (l.getD i []) (l.getD b []) S S m1.c T.c;have Q:=(Hp H.hp H.le m1.c T.c).2<|D9.1 K;rw[<-m,<-B b v]at P Q;refine ai<|L<|q<|t<|rc J J P (o J<|z J (λh=>?_)<|λ_=>bN<|aT<|rt J (hp:=ak)<|aA (b+1) d (S:i-(b+1)<i-b) aM) (hp:=ak);have h:(G (c8 p (Y l (ad<|(i:Z))<|ET.cJ<|.sl u)<|Y l (ad<|(b:Z))<|ET.cJ<|.sl u):Z)≠1:=bne_iff_ne.1 h;exact absurd (by rw[Q];rfl) h
  .exact aN<|aT<|rt J (hp:=ak)<|aA (i+1) r xI aM
 .exact jS<|lJ<|kF<|jT<|ay<|t<|rc J J (afq H (l:=l) (λg B=>⟨(E g B).1,by have:=(E g B).2;omega⟩) S S)<|rc J J (MW a p S U S ha)<|rc J J (LZ (iS p l<|G l) (au<|md p a)<|by have d:=(Cj H (l:=l) (λg B=>⟨(E g B).1,by have:=(E g B).2;omega⟩) (G l)<|a8 _).2.2;rw[eE]at d;omega)<|o J<|bc<|atR J
end Go.El
namespace Go.El
open Go Go.Proofs Go.RowKit
def Wc{a:V Z}{l:V (V Z)}{p k:I}(b:af j 98 [N .z a,N (.sl u) l,cU p,D k] (cB ah)):af j 30 [N .z a,N (.sl u) l,cU p,D k] (.t [(ah,[.V (.slice none 0 0)]),(ah,[.I .i64 1])]):=by refine aD Tryz.func30 ?_;exact e J<|L<|aO J J b J<|z J (λ_=>e J<|bc<|bt<|atR J)<|λh=>bS
def at9{a:V Z}{l X:V (V Z)}{p k:I}(b:af j 98 [N .z a,N (.sl u) l,cU p,D k] (cB ae))(c:af j 99 [N .z a,N (.sl u) l,cU p,D k] (N (.sl .z) X)):af j 30 [N .z a,N (.sl u) l,cU p,D k] (.t [(ah,[.S (.sl .z) X]),(ah,[.I .i64 0])]):=by refine aD Tryz.func30 ?_;exact e J<|L<|t<|rc J J b<|o J<|z J (λh=>bS)<|λ_=>bN<|ay<|t<|rc J J c<|o J<|bc<|atR J
def at' a(m:G a<=1000)(c:∀i,Sm (Y a i 0))(d:a≠[]->Y a (G a-1) 0≠1):af j 90 [N .z a] (cB ah):=by
 refine aD Tryz.func90 ?_;refine e J<|L<|e J<|q<|aK (α:=I) (λi=>⟨[(0,N .z a),(5,N .z a),(6,D<|G a),(7,D i)],[],2,[]⟩) (λi=>i<=G a) (λi=>G a-i) 0 (aW _) aM ?_;intro i n;refine e J<|L<|z J (λh=>?_)<|λh=>?_
 .have h:i<G a:=by have h:(i:Z)<(G a:Z):=az h;omega
  have f:af j 157 [.a (av .z<|Y a (ad<|(i:Z)) 0)] (cB ae):=by rw[aV];exact YL _<|c i
  refine ai<|L<|q<|e J (hp:=ak)<|aO J J f J ?_;refine z J (λh2=>nl)<|λ_=>bN<|aT ?_;exact rt J<|aA (i+1) h ka aM
 .refine aN (ay<|t<|rg 18 J J (λh2=>?_)<|λh2=>?_)
  .have h2:0<G a:=by have h2:(G a:Z)>0:=az h2;omega
   have g:=d<|bX.1 h2;have b:=G7 (Y a (ad<|((G a:Z)-1)) 0) 1;have k:ad ((G a:Z)-1)=G a-1:=S;refine eI J J J J J (nL 1 A A) (eI J J J J J b (o J<|bq J<|aC cB ?_) (hp:=ak)) (hp:=ak);have l:cX (Y a (ad<|(G a:Z)-1) 0) 1≠0:=λb=>g (by rw[k]at b;unfold cX at b;split at b<;>(try split at b)<;>omega)
   exact beq_eq_false_iff_ne.2 l
  .exact o J<|bU J
def aua{p}(d:cE p)(b:p<=2147483647)(a:V Z)(f:V (V Z)){k:I}(g:k<1):af j 29 [N .z a,N (.sl u) f,cU p,D k] (.t [(ah,[.V (.slice none 0 0)]),(ah,[.I .i64 1])]):=by
 refine aD Tryz.func29 ?_;refine e J<|L<|t<|rc J J (Hh p d b)<|rg 17 J J (λh=>bS)<|λ_=>rg 21 J J (λc=>?_)<|λc=>?_
 .exact rg 25 J J (λ_=>o J<|z J (λ_=>e J<|bc<|bt<|atR J)<|λh=>bS)<|λh=>bS
 .have c:¬(k:Z)<1:=aL c;omega
def aub{p}(f:cE p)(c:p<=2147483647){a}(g:G a<=1000)(l:∀i,Sm (Y a i 0))(m:a≠[]->Y a (G a-1) 0≠1)(n:V (V Z)){k:I}(v:1<=k)(r:k<=200):af j 29 [N .z a,N (.sl u) n,cU p,D k] (.t [(ah,[.V (.slice none 0 0)]),(ah,[.I .i64 1])]):=by
 refine aD Tryz.func29 ?_;refine e J<|L<|t<|rc J J (Hh p f c)<|rg 17 J J (λh=>bS)<|λ_=>rg 21 J J (λd=>?_)<|λd=>?_
 .have d:(k:Z)<1:=az d;omega
 refine rg 25 J J (λb=>?_)<|λb=>?_
 .have b:(k:Z)>200:=az b;omega
 exact eI J J J J J (at' a g l m)<|o J<|z J (λ_=>e J<|bc<|bt<|atR J)<|λh=>bS
open Fx
structure lT(p:I)(l:V (V Z)):Prop where
 H:aX p
 ok:∀g∈l,Mon p g/\2<=g.length
 co:l.Pairwise (λx a=>Co (fx x:Fx p)<|fx a)
 d9:b7 l<=90
section
variable{p:I}{l:V (V Z)}
def lT.at(a:lT p l){i}(c:i<G l):Mon p (l.getD i [])/\2<=G (l.getD i [])/\G (l.getD i [])<=91:=by
 have b:l.getD i []∈l:=by rw[aF,bD c];exact j6 c
 have d:=O8 b;have f:=a.d9;exact⟨(a.ok _ b).1,(a.ok _ b).2,S⟩
def lT.len(a:lT p l):G l<=90:=cQ (Jf λf b=>(a.ok f b).2).1 a.d9
def lT.qJ(r:lT p l){i b}(c:i<G l)(d:b<G l)(f:b≠i):Co (fx (l.getD b []):Fx p) (fx<|l.getD i []):=by
 have m:=vi.1 r.co;have g:∀k(n:k<G l),l.getD k []=l[k]:=λk n=>by rw[aF,bD n];rfl
 rw[g i c,g b d];rcases Nj f with a|a
 .exact m b i d c a
 .exact(m i b c d a).symm
def lT.EW(a:lT p l):pX p (λi=>l.getD i []) (G l):=by
 have k:=a.len;have g:∀j,j<G l->aY p (l.getD j []):=λj d=>(a.at d).1.c
 refine⟨a.H.hp,a.H.le,S,g,λi b=>(a.at b).2.1,λi b=>by have:=(a.at b).2.2;omega,λi b=>?_⟩;exact TV a.H.hp a.H.le b g (a.at b).1.ne (λj d f=>D9.1<|a.qJ b d f) _<|a8 _
def JD(p:Z)(l:V (V Z)):∀i,kA p (λi=>l.getD i []) i=iS p l i
 |0=>rfl
 |i+1=>by rw[kA,iS,JD p l i]
def lT.JE(a:lT p l){i}(c:i<=G l):Mon p (iS p l i)/\(fx (iS p l i):Fx p)=eD p (y i l)/\G (iS p l i)=1+b7 (y i l):=Cj a.H (λg b=>⟨(a.ok g b).1,by have:=(a.ok g b).2;omega⟩) i c
def lT.pre(a:lT p l){i:I}(b:i<G l):∀n,n<=i->Co (fx (l.getD i []):Fx p) (eD p<|y n l)
 |0,_=>⟨0,1,by rw[Bh];show 0*_+1*(1:Fx p)=1;rw[Fx.zero_mul,Fx.mul_one,Fx.zero_add]⟩
 |n+1,d=>by
  have c:eD p (y (n+1) l)=eD p (y n l)*fx (l.getD n []):=by rw[<-(a.JE (i:=n+1) S).2.1,<-(a.JE (i:=n) S).2.1];exact rX _ _
  rw[c];exact(a.pre b n S).mul<|a.qJ S b S
def auc l i:b7 (y i l)<=b7 l:=by
 have e:b7 l=b7 (y i l)+b7 (aE i l):=by
  conv=>lhs;rw[<-ri i l]
  exact ES _ _
 omega
def lT.liC(b:lT p l)(g:p<=2147483647){a}(m:G a<=400)(n:a≠[])(r:Y a (G a-1) 0=1){f}(v:f<=1000)(x:∀i,aw f (Y a i 0)){k}(B:1<=k)(E:k<=200):LiC p a l k f:=by
 refine⟨b.EW,B,m,v,x,g,E,n,r,λi d=>(b.at d).1.one,λi d=>?_,λi d=>?_⟩
 .let ⟨t1,t2,t3⟩:=b.JE d;have:=auc l i;have:=b.d9;rw[JD];exact⟨t1.c,t1.ne,S⟩
 .let ⟨t1,t2,t3⟩:=b.JE<|Cy d;rw[JD];refine(Hp b.H.hp b.H.le t1.c (b.at d).1.c).2<|D9.1 ?_;rw[t2];exact(b.pre d i<|a8 _).symm
def lT.fl(h:lT p l){a}(c:aG a)(d:iS p l (G l)=au (md p a)):G a=1+b7 l/\vt p a l:=by
 let ⟨t1,t2,t3⟩:=h.JE<|a8<|G l;rw[eE]at t2 t3;have b:1<(p:Z):=NI;have f:G a=1+b7 l:=by rw[<-t3,d,(c.md b).trim,oU]
 refine⟨f,c,h.ok,?_,h.co,f,h.d9⟩;rw[<-t2,d,pK,D6]
def lT.UI(c:lT p l){a}(d:G a<=400)(f:G a=1+b7 l){b}(g:b<=1000)(m:∀i,aw b (Y a i 0)){k}(n:1<=k)(v:k<=200):o0 p a (λi=>l.getD i []) (G l) k b:=
 ⟨c.EW,n,S,d,g,m,by rw[IS _ _ _ (λi r=>by have:=(c.at r).2.1;omega),<-EU (λi=>l.getD i []) (G l),Cc,f,AL]⟩
end
section
variable{p:I}{l:V (V Z)}
def lT.EX(c:lT p l){a}(f:aG a)(g:G a=1+b7 l)(k:(fx a:Fx p)=eD p l):qY p a (λi=>l.getD i []) (G l):=by
 refine⟨c.EW,λi b=>⟨(c.at b).1.ne,(c.at b).1.one⟩,λi b=>?_,f,by rw[IS _ _ _ (λi b=>by have:=(c.at b).2.1;omega),<-EU (λi=>l.getD i []) (G l),Cc,g,AL],?_⟩
 .have d:∀n,n<=i->fU p (fr (λj=>h<|l.getD j []) n) (h<|l.getD i []):=by
   intro n;induction n with
   |zero=>intro _;exact fU.one _
   |succ n m=>
    intro r
    exact(m S).mul (D9.1<|c.qJ b S S)<|IQ n λj _=>aU.ps _ _
  exact d i<|a8 _
 .rw[<-Je (λi=>l.getD i []) (G l),Cc];have e:(fx a:Fx p)=fj l:=by rw[k,Oe]
  rw[vf]at e;exact mk_eq.1 e
abbrev agy:AV:= .t [(ah,[.V (.slice none 0 0)]),(ah,[.I .i64 1])]
def aud(b:lT p l)(d:p<=2147483647){a}(B:G a<=12){n r}(f:∀i,aw n (Y a i 0))(E:a≠[]->Y a (G a-1) 0≠0){k:I}(g:k<=200)(F:aw r ((p:Z)^k))(P:n<=1000)(Q:r<=n)(R:1<=r):
  (af j 29 [N .z a,N (.sl u) l,cU p,D k] agy/\af j 30 [N .z a,N (.sl u) l,cU p,D k] agy)\/
  ∃X:V (V Z),q' p k a l X/\af j 29 [N .z a,N (.sl u) l,cU p,D k] (.t [(ah,[.S (.sl .z) X]),(ah,[.I .i64 0])])/\af j 30 [N .z a,N (.sl u) l,cU p,D k] (.t [(ah,[.S (.sl .z) X]),(ah,[.I .i64 0])]):=by
 have m:∀i,Sm (Y a i 0):=λi=>(f i).sm S
 have c:=at8 b.H d B m E b.ok b.len b.d9 b.co g
 by_cases k1:1<=k
 .rw[jU k1,A4]at c;by_cases hm:a≠[]/\Y a (G a-1) 0=1
  .have x:aG a:=hm;rw[jU hm,A4]at c;by_cases he:iS p l (G l)=au (md p a)
   .right;rw[jU he]at c;let ⟨fl,A⟩:=b.fl x he;have O:=VS b.H k1 _ _ A;have C:=b.EX x fl A.pr;obtain⟨s,rfl⟩:∃s,k=s+1:=⟨k-1,S⟩;have e:=q'.uniq b.H k1 O (C.lfO s) b.co;refine⟨_,O,?_,at9 c<|afy b.H A k1 S f F P Q R⟩;refine TN (b.liC d S hm.1 hm.2 S f k1 g) J (λ_=>⟨b.UI S fl S f k1 g,oV⟩) λv=>absurd (by rw[JD];exact he) v
   .left;rw[iX he]at c;exact⟨TN (b.liC d S hm.1 hm.2 S f k1 g) J (λe=>absurd (by rw[<-JD];exact e) he) λ_=>rfl,Wc c⟩
  .left;rw[iX hm,O4]at c;exact⟨aub b.H.hp d S m (λK U=>hm ⟨K,U⟩) l k1 g,Wc c⟩
 .left;rw[iX k1,O4]at c;exact⟨aua b.H.hp d a l S,Wc c⟩
end
def aue{p}(H:aX p){F}{f}(a:pT p F f)(k:b7 (f.map (·.1))<=90):lT p (f.map (·.1)):=by
 refine⟨H,λg l=>?_,wh.2 (Ea (λ{x y} b m i=>?_) a.ds),k⟩
 .obtain⟨x,b,rfl⟩:=kY.1 l;exact⟨(a.parts x b).1,(a.parts x b).2.1⟩
 .let ⟨n,r,v,_⟩:=a.parts x b;let ⟨B,E,C,_⟩:=a.parts y m;exact(v.or H<|fx y.1).elim (λd=>absurd (aaG H n B C r d) i) λc=>c
def auf{p}(H:aX p){f}{a}(k:Mon p f)(b:pT p (fx f) a):b7 (a.map (·.1))+1<=G f:=by
 have g:∀{a:V (V Z×Z)},(∀x∈a,Mon p x.1/\2<=G x.1/\1<=x.2)->ib p a≠0/\b7 (a.map (·.1))+1<=sz (ib p a):=by
  intro a;induction a with
  |nil=>intro _;exact⟨nn H,by rw[ib,np H];exact a8 _⟩
  |cons x a l=>
   intro b
   let ⟨i1,i2⟩:=l λy hy=>b y mV
   let ⟨d,B,C⟩:=b x ax
   have m:sz (fx x.1:Fx p)=G x.1:=pY H ⟨d.ne,d.one⟩
   obtain⟨n,r⟩:∃n,ad x.2=n+1:=⟨ad x.2-1,S⟩
   have c:=tB H (d.gI H)<|n+1
   have v:=VD H (d.gI H)<|n+1
   have E:=dE H c i1
   rw[ib,r,gZ,b7]
   rw[m]at v
   have F:(G x.1-1)*1<=(G x.1-1)*(n+1):=jw _ S
   exact⟨nQ H c i1,S⟩
 have:=(g λx i=>⟨(b.parts x i).1,(b.parts x i).2.1,(b.parts x i).2.2.2⟩).2;rw[b.prod,pY H ⟨k.ne,k.one⟩]at this;exact this
end Go.El
namespace Go.El
open Go Go.Proofs Go.RowKit
def aug x:(cf x).num.natAbs<=6/\((cf x).den=1\/(cf x).den=3):=by
 have a:=Lb x;unfold cf;split
 .generalize x.tmod 7=t at a;have h:t= -6\/t= -5\/t= -4\/t= -3\/t= -2\/t= -1\/t=0\/t=1\/t=2\/t=3\/t=4\/t=5\/t=6:=S;rcases h with h|h|h|h|h|h|h|h|h|h|h|h|h<;>subst h<;>decide+kernel
 .refine⟨?_,.inl J⟩;show Int.natAbs (x.tmod 7)<=6;omega
def agz(l:V O):∀n,gD l n<=n
 |0=>a8 _
 |n+1=>by
  simp only[gD];split
  .exact Nat.le_succ_of_le<|agz l n
  .exact a8 _
def agA(l:V O):∀n,gD l n=0\/(Y l (gD l n-1) 0).num≠0
 |0=> .inl J
 |n+1=>by
  simp only[gD];split
  .exact agA l n
  .rename_i a;exact .inr a
def Wd{a:Type} l n i(d:a):(y n l).getD i d=if i<n then Y l i d else d:=by simp only[aF,F3];split<;>rfl
def auh l a:G (jd l a)<=a+1/\(∀i,(Y (jd l a) i 0).num.natAbs<=6)/\(∀i,(Y (jd l a) i 0).den=1\/(Y (jd l a) i 0).den=3)/\(jd l a=[]\/(Y (jd l a) (G (jd l a)-1) 0).num≠0):=by
 unfold jd dV;generalize c:(y (a+1) l).map cf=L;have d:G L<=a+1:=by rw[<-c];simp;omega
 have b:∀i,(Y L i 0).num.natAbs<=6/\((Y L i 0).den=1\/(Y L i 0).den=3):=by
  intro i;rw[<-c,aF,gj];cases(y (a+1) l)[i]? with
  |none=>exact⟨A,.inl J⟩
  |some x=>exact aug x
 have f:=agz L<|G L;refine⟨bP,λi=>?_,λi=>?_,?_⟩
 .rw[Wd];split
  .exact(b i).1
  .decide
 .rw[Wd];split
  .exact(b i).2
  .exact .inl J
 .rcases agA L (G L)with h|h
  .rw[h];exact .inl J
  .by_cases g:gD L (G L)=0
   .rw[g];exact .inl J
   .refine .inr ?_;rw[il,pj f,Wd,s S];exact h
section
variable(cs:V O)(We:∀i,(cs.getD i 0).num.natAbs<=6)(Ph:∀i,(cs.getD i 0).den=1\/(cs.getD i 0).den=3)(G8:cs=[]\/(cs.getD (cs.length-1) 0).num≠0)
def Wf:∀i a,a<i->gN cs i∣xN cs a
 |0,a,b=>by omega
 |i+1,a,b=>by
  simp only[gN];rcases Nat.lt_succ_iff_lt_or_eq.1 b with b|rfl
  .exact Ey (GS ..)<|Wf i a b
  .exact K7 ..
def aui(a:I)(b:a<G cs):gF cs∣xN cs a:=by
 unfold gF;split
 .exact Int.neg_dvd.2<|Wf cs _ a b
 .exact Wf cs _ a b
def agB(i:I):Y (rM cs) i 0=if i<G cs then xN cs i/gF cs else 0:=by
 unfold rM;rw[aF,gj];by_cases h:i<G cs
 .simp[h]
 .simp[h]
def Wg:G (rM cs)=G cs:=by simp[rM]
include We Ph
def auj(i:I):Int.natAbs (Y (rM cs) i 0)<=18:=by
 rw[agB];split
 .have a:=DN cs We Ph i;have b:=O7 (xN cs i)<|gF cs;omega
 .decide
include G8
def auk(a:rM cs≠[]):Y (rM cs) (G (rM cs)-1) 0≠0:=by
 have b:0<G cs:=by rw[<-Wg cs];exact bX.2 a
 rw[Wg,agB,s S];have d:xN cs (G cs-1)≠0:=(Q7 cs Ph _).2.1 (G8.resolve_left<|by intro a;rw[a]at b;simp at b);let ⟨c,hc⟩:=aui cs (G cs-1) S;have f:=(Lf cs We Ph G8 b).1;rw[hc,DM _ f];intro g;rw[g]at hc;simp at hc;exact d hc
end
open Fx Rx
def Wh:af j 19 [N .q []] (.t [(ae,[.B ah,vu,.B ah,vu]),(ah,[vu]),(ah,[.I .i64 10])]):=by refine aD Tryz.func19 ?_;exact e J<|L<|e J<|z J (λ_=>e J<|bc<|bt<|atR J)<|λh=>bS
def aul:af j 23 [N .q []] (cB ah):=by refine aD Tryz.func23 ?_;refine e J<|aO J J Wh J ?_;exact t<|rg 14 J J (λh=>bS)<|λ_=>rg 19 J J (λh=>bS)<|λ_=>o J<|bU J
def aum:af j 25 [N .q []] (N .q []):=by refine aD Tryz.func25 ?_;refine e J<|aO J J Wh J<|t<|gR .q [] J J (o J<|L<|e J ?_);refine q<|aK (α:=Unit) (λ_=>⟨[(6,.c<|.X 2000000),(7,D<| -1)],[(2000000,.vec 46 .q [])],4,[]⟩) (λ_=>True) (λ_=>0) () T aM ?_;rintro- -;refine L<|e J<|z J (λa=>by cases a)<|λa=>?_;exact aN<|ay<|cD 2000000 J J J<|e J<|bU J
def aun{p}(H:aX p)(d:p<=2147483647){a}(l:G a<=200)(f:∀i,0<=Y a i 0)(g:au (md p a)=[]):af j 27 [N u a,cU p] (.t [(ah,[.S MT []]),(ah,[.I .i64 10])]):=by have k:=H.hp.1;have b:=uO a p S S S f;rw[g]at b;have c:=RJ p H.hp H.le [] A (gH H.pos<|pH H.pos []);refine aD Tryz.func27 ?_;refine e J<|L<|aO J J (LP p H.hp d) J<|z J (λh=>bS)<|λ_=>ai ?_;refine t<|rc J J b<|rc J J c<|o J<|L<|e J<|z J (λh=>?_)<|λh=>bS;exact e J<|dc (wk (st':=⟨[(4,N MT []),(5,D 10)],[],10,[]⟩) ⟨⟨_,J,a7.nil MT⟩,sR J,T⟩ T)<|bc<|bt<|atR J
def auo{p}(H:aX p)(p31:p<=31){f}(lf:G f<=9):∃L:V (V Z×Z),∃e:Z,G L<=9/\lT p (L.map (·.1))/\af j 27 [N u (au<|md p f),cU p] (.t [(ah,[.S MT L]),(ah,[.I .i64 e])]):=by
 have hc:=gH H.pos<|pH H.pos f;have hl:G (au<|md p f)<=9:=by have:=kK<|md p f;rw[oU]at this;omega
 have hn:∀i,0<=Y (au<|md p f) i 0:=λi=>(hc.1 i).1
 have hs:=agw H hc;by_cases h0:au (md p f)=[]
 .refine⟨[],10,A,⟨H,(λg hg=>by cases hg),wu,A⟩,aun H S S hn<|hs.trans h0⟩
 .let ⟨L,h1,h2⟩:=afl H S S hn (by rw[hs];exact h0) (λd hd=>by rw[hs]at hd;have h3:p^d<=31^d:=v5 p31 d;have h4:31^d<=31^4:=fG A S;omega);rw[hs]at h1;let ⟨m1,m2,_⟩:=HH H hc h0;have h3:=auf H m1 h1;have hb:=(h1.VF H m1).1;exact⟨L,0,S,aue H h1 S,h2⟩
def auq{a}(b:a=[]\/kD a):∃R:V O,G R<=8/\(∀i,QS 20 (Y R i 0))/\af j 24 [N .q a] (N .q R)/\af j 25 [N .q a] (N .q R):=by
 rcases b with rfl|b
 .exact⟨[],A,(λi=>by rw[List.getD_nil];exact QS.zero A),afz,aum⟩
 .let ⟨fs,f1,f2,f3,f4⟩:=aeA b;let ⟨gs,g,g2,r,k⟩:=ags b;have e:=f1.uniq g;subst e;have l:=at6 f1;have c:=at4 f2 k;rw[<-l]at c;have d:=Jt fs;refine⟨rL fs,?_,λi=>?_,f4,c⟩
  .have:=Fg fs;rw[d.length_eq];omega
  .by_cases f:i<G (rL fs)
   .have m:Y (rL fs) i 0∈eZ fs:=d.mem_iff.1 (by rw[aF,bD f];exact j6 f);let ⟨x,n,_,p⟩:=Cf m;rw[p];exact((f3 x n).q 0).neg
   .rw[aF,lG S];exact QS.zero A
def af.a2{P}{f}{x b c d}{xs}{r}(a:af P f (b::d::xs) r)(g:a7 x b)(i:a7 c d):af P f (x::c::xs) r:=
 ⟨a.call,a.iw,λH W vs k l=>a.spec H W vs k<|by obtain⟨v,_,rfl,m,w,s,rfl,n,p⟩:=l;exact⟨v,_,J,g.1 _ _ m,w,s,J,i.1 _ _ n,p⟩⟩
def agC{P}{n}{x d f c}{g}{Q}{α:Type}(b:α->St)(i:α->Prop)(a:∀m,i m->TR P n c (b m) Q)(k:(∀m,i m->fw n .normal (b m) (sY P c Q))->TR P n (.seq x<|.seq d<|.seq f c) g Q):TR P n (.seq x<|.seq d<|.seq f c) g Q:=k λm l=>ay<|a m l
def q'.sm{p k}(r:0<p){f}{l X}(d:q' p k f l X){i}(g:i<G l){b}(m:aw b ((p:Z)^k)) c:aw b (Y (X.getD i []) c 0):=by let ⟨_,_,_,n⟩:=d.ok i g;have a:(0:Z)<(p:Z)^k:=kV S;rw[<-n c];exact EE a m
def aur(l:V Z)(hl:∀x∈l,-128<=x/\x<=127)(n:I)(hn:n<4294967296)(b:I)(he:b<256):af j 4 [N I8 l,cW n,.c<|.I .u8 b] (cB ae):=by
 refine aD Tryz.func4 ?_;have pu:=Yv l 8 A hl;refine e J<|aO J J asG J<|gy<|e J<|z J (λh=>bS)<|λ_=>ai ?_;refine aO J J pu J ?_;let ⟨u1,u2,u3,u4⟩:=auh l 8;have Fa:=λh=>OV (l:=l) (most:=8) A h
 have qa:=arz l 8;generalize jd l 8=a at*;have g:a=[]\/kD a:=by
  by_cases h:a=[]
  .exact .inl h
  .exact .inr<|Fa h
 let ⟨R,R1,R2,R3,R4⟩:=auq g;have hI:=ajF a S u2 u3 u4;have MQ:=auj a u2 u3;have hf2:=auk a u2 u3 u4;have hf3:=Wg a;generalize rM a=f at*;have Hw:(n-n%2)%2=0:=S;let ⟨p,hp,Q,Uc⟩:=aku (n-n%2) S Hw;have H:aX p:=⟨hp,S⟩;have r7:=hp.1;have m:∀w,1<=w->∀i,aw w (Y f i 0):=λw hw i=>(aw.one<|by have:=MQ i;omega).le hw
 have oP:=MW f p S r7 S<|λi=>(m 1 A i).sm A;let ⟨L,er,L1,L2,U⟩:=auo H Q (f:=f) S;have W:∀k,k<=7->aw 2 ((p:Z)^k):=λk hk=>by unfold aw;rw[Int.natAbs_pow,lO];have h3:p^k<=31^k:=v5 Q k;have h4:31^k<=31^7:=fG A hk;omega
 have r:=aud L2 S (a:=f) S (m 2 A) (λh=>hf2 h) (k:=b%8) S (W (b%8) S) A A A;have Rg:=S9 f 2 A S<|m 2 A;have oM:=afH f 2 A S<|m 2 A;have s:=Tr ((cO f:I):Z) ((cO f:I):Z) (by have h1:=Io f (m 2 A) (i:=G f) S;have d:aw 1 (((2^(G f-1):I)):Z):=aw.one (by have:2^(G f-1)<=2^8:=fG A S;rw[lO];omega);have h3:=h1.mul d;rw[<-fF]at h3;exact h3.sm A);rw[jU J]at s;refine agC (α:=Unit) (λ_=>⟨[(1,cW n),(2,.c<|.I .u8 b),(7,cB ae),(8,N .q a)],[],20,[]⟩) (λ_=>True) (λ_ _=>?_)<|λte=>?_
 .refine t<|rc J J R3<|rc J J R4<|o J<|gy<|e J<|z J (λh=>(JC h).elim)<|λ_=>ai ?_;refine gy<|e J<|q<|aK (α:=I) (λi=>⟨[(1,cW n),(2,.c<|.I .u8 b),(7,cB ae),(8,N .q a),(13,N .q R),(14,N .q R),(15,D i)],[],23,[]⟩) (λi=>i<=G R) (λi=>G R-i) 0 (aW _) aM ?_;intro i hi;refine gy (e J<|z J (λh=>?_)<|λh=>?_)
  .have h:i<G R:=by have h:(i:Z)<(G R:Z):=az h;omega
   have P:=OR (k:=20) (Y R (ad<|(i:Z)) 0) (Y R (ad<|(i:Z)) 0) (R2 _) A;rw[jU J]at P;exact ai<|gy<|q<|t<|rc J J P (o J<|z J (λh=>bS)<|λ_=>bN<|aT<|rt J (hp:=ak)<|aA (i+1) h (S:G R-(i+1)<G R-i) aM) (hp:=ak)
  have M:af j 10 [cW (IntKind.wrap .u32<|(n:Z)-(n:Z).tmod 2)] (cU p):=by rw[show(n:Z).tmod 2=((n%2:I):Z)from gU n 2,wrap_u32 _ S S,(S:((n:Z)-((n%2:I):Z))=((n-n%2:I):Z))];exact Uc
  have O:(b:Z).tmod 8=((b%8:I):Z):=gU b 8;have avW:0<=(b:Z).tmod 8/\(b:Z).tmod 8<=7:=by rw[O];omega
  refine aN<|ay ?_;refine aO J J hI J<|t<|rc J J M<|o J<|t<|rc J J oP<|rc J J U<|o J ?_;refine t<|gR (.sl u) [] J J (o J<|gy<|e J ?_);refine q<|aK (α:=I×V (V Z)) (λv=>⟨[(2,.c<|.I .u8 b),(7,cB ae),(16,N .z f),(17,cU p),(18,.c<|.S MT L),(20,.c<|.X 27000000),(21,D v.1)],[(27000000,.vec 22 (.sl u) v.2)],29,[]⟩) (λv=>v.1<=G L/\v.2=(y v.1 L).map (·.1)) (λv=>G L-v.1) (0,[]) ⟨aW _,J⟩ aM ?_;rintro⟨i,C⟩ ⟨i1,i2⟩;simp only at i1 i2;have ho:G C<=9:=V6;refine gy<|e J<|z J (λd=>?_)<|λd=>?_
  .have d:i<G L:=by have d:(i:Z)<(G L:Z):=az d;omega
   have ei:ad ((i:Z))=i:=aV i;refine ai<|gy<|q ?_;refine bs<|rl (.sl u) [_] J J (ra J J J J J J J J J ?_ ?_<|o J ?_) (hp:=ak)
   .show(G C+1+(G C+1)/4+192)*24<=_;omega
   .show(G C+1)*1<=_;omega
   refine aT<|rt J (hp:=ak)<|aA (i+1,C++[(Y L (ad<|(i:Z)) fA).1]) ⟨d,?_⟩ Mr<|Wk.trans (wk (st':=⟨[(2,.c<|.I .u8 b),(7,cB ae),(16,N .z f),(17,cU p),(18,.c<|.S MT L),(20,.c<|.X 30007000),(21,D ((i+1:I):Z))],[(30007000,.vec 22 (.sl u)<|C++[(Y L (ad<|(i:Z)) fA).1])],40,[]⟩) (aS J) ⟨bR J,T⟩)<|Wk.trans (fp 27000000 30007000 J J J) aM;show C++[_]=(y (i+1) L).map (·.1);rw[ei,i2,mM,fe,aF,bD d];rfl
  have d:i=G L:=by have d:¬(i:Z)<(G L:Z):=aL d;omega
  rw[d,eE]at i2;subst i2;refine aN<|ay ?_;refine cD 27000000 J J J ?_;rw[<-O]at r;refine agC (α:=V<|V Z) (λX=>⟨[(7,cB ae),(16,N .z f),(22,N (.sl .z) X),(24,N (.sl .z) X)],[],60,[]⟩) (λX=>X.length<=9/\∀i,i<X.length->G (X.getD i [])<=100/\∀fQ,Sm (Y (X.getD i []) fQ 0)) (λX E=>?_)<|λB=>?_
  .let ⟨hX9,E⟩:=E;refine gy<|e J<|q<|aK (α:=I) (λi=>⟨[(7,cB ae),(16,N .z f),(22,N (.sl .z) X),(24,N (.sl .z) X),(26,D i)],[],61,[]⟩) (λi=>i<=X.length) (λi=>X.length-i) 0 (aW _) aM ?_;intro i hi;refine gy (e J<|z J (λh=>?_)<|λh=>?_)
   .have h:i<X.length:=by have h:(i:Z)<(X.length:Z):=az h;omega
    have ei:ad ((i:Z))=i:=aV i;let ⟨x1,x2⟩:=E i h;have P:=abU (X.getD (ad<|(i:Z))<|ET.cJ<|.sl .z) (X.getD (ad<|(i:Z))<|ET.cJ<|.sl .z) (by rw[ei];exact cQ x1 A) (by rw[ei];exact x2);rw[jU J]at P;exact ai<|gy<|q<|t<|rc J J P (o J<|z J (λh=>bS)<|λ_=>bN<|aT<|rt J (hp:=ak)<|aA (i+1) h G5 aM) (hp:=ak)
   refine aN<|ay ?_;refine t<|rc J J Rg<|rc J J oM<|rc J J s<|rg 175 J J (λ_=>?_)<|λh=>bS;exact o J<|bU J
  rcases r with⟨b1,b2⟩|⟨X,E,b1,b2⟩
  .refine t<|rc J J b1 (hp:=ak)<|o J<|t<|rc J J b2 (hp:=ak)<|o J ?_;refine gy<|t<|rg 147 J J (λh=>bS)<|λ_=>o J<|z J (λh=>bS)<|λ_=>bN<|fH (B [] ⟨A,λi hi=>by cases hi⟩) ?_;exact wk ⟨sR J,sR J,⟨_,J,a7.nil _⟩,⟨_,J,a7.nil _⟩,T⟩ T
  .refine t<|rc J J b1 (hp:=ak)<|o J<|t<|rc J J b2 (hp:=ak)<|o J ?_;have V1:=E.len;have hX':∀i,i<X.length->G (X.getD i [])<=100/\∀fQ,Sm (Y (X.getD i []) fQ 0):=λi hi=>by have F:i<(L.map (·.1)).length:=S;have:=(L2.at F).2.2;exact⟨by rw[(E.ok i F).2.1];omega,λfQ=>(E.sm S F (W (b%8) S) fQ).sm A⟩
   exact gy<|t<|rg 147 J J (λh=>bS)<|λ_=>o J<|z J (λh=>(JC h).elim)<|λ_=>bN<|fH (B X ⟨by rw[V1,cL];exact L1,hX'⟩) aM
 have m1:=te () T;rcases g with rfl|hF
 .refine aO J J asu J<|t<|rc J J Wh<|o J ?_;have K:af j 21 [.c vu,.c vu] (cB ae):=(agv (fs:=[]) A<|λx hx=>by cases hx).a2 (a7.nil UT)<|a7.nil UT;refine gy<|t<|rg 44 J J (λh=>bS)<|λ_=>rg 47 J J (λh=>bS)<|λ_=>?_;refine rg 55 J J (λh=>bS)<|λ_=>eI J J J J J K ?_;refine rg 62 J J (λh=>bS)<|λ_=>eI J J J J J afA<|eI J J J J J aul ?_;exact o J<|z J (λh=>bS)<|λ_=>bN<|fH m1 aM
 .let ⟨fs,f1,f2,f3,f4⟩:=afD hF;let ⟨gs,g1,g2,g3,g4⟩:=ags hF;have efg:=f1.uniq g1;subst efg;let ⟨P,h1,d,h3,h4⟩:=OP hF;have efh:=f1.uniq h1;subst efh;have K:=agv f2 f3;have i1:=at2 h4;have i2:=at3 g4;have Bg:=OR (Y a (G a-1) 0) (Y a (G a-1) 0) (qa _) A;rw[jU J]at Bg;generalize Y a (G a-1) 0=ca at*;refine aO J J f4 J<|t<|rc J J g4<|o J ?_;refine gy<|t<|rg 44 J J (λh=>bS)<|λ_=>rg 47 J J (λ_=>?_)<|λh=>bS;refine eI J J J J J Bg ?_;refine rg 55 J J (λh=>bS)<|λ_=>eI J J J J J K ?_;refine rg 62 J J (λh=>bS)<|λ_=>eI J J J J J i1<|eI J J J J J i2 ?_;refine o J<|z J (λh=>?_)<|λ_=>bN<|fH m1 aM;have h:(JB fs !=JB fs)=ae:=h;rw[bne_self_eq_false]at h;cases h
end Go.El
