/- Plain: multiplicities over the rationals. Own work; no condition. -/
import Derived.Test.YtkkccchkmcjcpaaGreatV14
import Derived.Test.YtkkccchkmcjcpaaGreatV9
import Derived.Test.YtkkccchkmcjcpaaGreatV10
import Derived.Test.YtkkccchkmcjcpaaGreatV13
import Derived.Test.YtkkccchkmcjcpaaGreatV7
import Derived.Test.YtkkccchkmcjcpaaGreatV6
import Derived.Test.YtkkccchkmcjcpaaGreatV11
set_option linter.all false
set_option maxHeartbeats 16000000
set_option maxRecDepth 100000
open Bool renaming false->ah,true->ae
open Go.El renaming rr->e,cS->N,vL->q,gy->L,cI->D,re->o,auI->z,y6->u,rb->t,ps->h
open Go.IntKind renaming wrap->ao
open Go.Proofs.Tryz renaming prog->j,func86->afi
open Int renaming toNat->ad
open List renaming getD->Y,length->G,getLast_eq_getElem->arI,range->be,take->y,perm_append_comm->ar3
open Nat renaming div_le_div_left->arU
open _root_ renaming List->V,Int->Z,Nat->I
namespace Go.El
open Go Go.Proofs Go.RowKit Rx
noncomputable def oE(a:V Rat):V (V Rat×Z)->Z
 |[]=>0
 |x::l=>if x.1=a then x.2 else oE a l
def arA{Q}(a:bw Q) n:pk Q n≠0:=λe=>by have:=Ox a.1 n;rw[e,kd]at this;omega
def aeQ{Q R a}(b:bw Q){i k}(c:pk Q i*R=pk Q (i+(k+1))*a):Q∣R:=by
 have e:R*pk Q i=(pk Q (k+1)*a)*pk Q i:=by rw[mul_comm R,c,rU];ac_rfl
 rw[qN (arA b i) e];exact lQ (dvd_mul_left _ _) _
def arB{Q R b}(d:bw Q){i a}(f:pk Q i*R=pk Q a*b)(g:¬Q∣R)(l:¬Q∣b):i=a:=by
 rcases CE i a with c|c|c
 .obtain⟨k,rfl⟩:∃k,a=i+(k+1):=⟨a-i-1,S⟩;exact absurd (aeQ d f) g
 .exact c
 .obtain⟨k,rfl⟩:∃k,i=a+(k+1):=⟨i-a-1,S⟩;exact absurd (aeQ d f.symm) l
def OW{b:V Rat}(g:Y b (G b-1) 0=1)(c:bw (lx b)):∀{l:V (V Rat×Z)},(∀x∈l,Y x.1 (G x.1-1) 0=1/\bw (lx x.1)/\1<=x.2)->l.Pairwise (λx a=>x.1≠a.1)->∃R,fK l=pk (lx b) (ad<|oE b l)*R/\¬lx b∣R
 |[],_,_=>⟨1,(mul_one _).symm,c.uU⟩
 |x::l,f,i=>by
  let ⟨m,n⟩:=Ac g;have d:∀a∈x::l,lx b∣lx a.1->a.1=b:=λa hy k=>by let ⟨p,r⟩:=Ac (f a hy).1;exact BR p m (c.eq (f a hy).2.1 n r k).symm
  let ⟨d1,d2⟩:=im.1 i;by_cases e:x.1=b
  .refine⟨fK l,by rw[fK,oE,s e,e],λk=>?_⟩;let ⟨a,hy,h2⟩:=Vr c k;exact d1 a hy<|e.trans (d a mV h2).symm
  .let ⟨R,r1,v⟩:=OW g c (λa hy=>f a mV) d2;refine⟨pk (lx x.1) (ad x.2)*R,by rw[fK,r1,oE,M e];ac_rfl,λk=>?_⟩;rcases c.nq k with k|k
   .exact e<|d x ax (c.pk k).2
   .exact v k
def OX{x:V Rat×Z}:∀{l:V (V Rat×Z)},l.Pairwise (λx b=>x.1≠b.1)->x∈l->oE x.1 l=x.2
 |b::l,c,a=>by
  let ⟨d1,d2⟩:=im.1 c;rw[oE];rcases df.1 a with rfl|a
  .rw[s J]
  .rw[M (d1 x a)];exact OX d2 a
def Vu{u:V Rat}:∀{l:V (V Rat×Z)},oE u l≠0->(u,oE u l)∈l
 |[],a=>absurd J a
 |c::l,a=>by
  rw[oE]at a⊢;split at a
  .rename_i b;rw[s b,<-b];simp
  .rename_i b;rw[M b];exact uj _<|Vu a
def Vv{u:V Rat}:∀{l:V (V Rat×Z)},(∀x∈l,1<=x.2)->0<=oE u l
 |[],_=>gk _
 |b::l,a=>by
  rw[oE];split
  .have:=a b ax;omega
  .exact Vv λx hx=>a x iB
def Vw{a b}{c}(d:lD a c)(g:Y b (G b-1) 0=1)(i:bw (lx b))(f:lx b∣lx (cV a)):(b,oE b c)∈c:=by
 let ⟨A,a1,a2⟩:=OW g i d.ok d.oY;refine Vu λe=>a2 ?_
 rw[<-d.prod,a1,e]at f;have k:pk (lx b) (ad<|(0:Z))*A=A:=one_mul A;rwa[k]at f
def m8:V (V Rat×Z)->I
 |[]=>0
 |x::l=>ad x.2*(G x.1-1)+m8 l
def aeR{Q:Rx}(b:Q≠0):∀a,sz (pk Q a)=a*(sz Q-1)+1/\pk Q a≠0
 |0=>⟨by rw[pk,np];omega,nn⟩
 |a+1=>by let ⟨i1,i2⟩:=aeR b a;have c:=dE i2 b;have d:=dX b;rw[pk];refine⟨?_,nQ i2 b⟩;rw[g7,iL];omega
def aeS:∀{l:V (V Rat×Z)},(∀x∈l,Y x.1 (G x.1-1) 0=1)->sz (fK l)=m8 l+1/\fK l≠0
 |[],_=>⟨by rw[fK,np,m8],nn⟩
 |x::l,a=>by
  let ⟨i1,i2⟩:=aeS (l:=l) λy hy=>a y mV
  let ⟨c,m⟩:=Ac<|a x ax;let ⟨d,b⟩:=aeR m.ne<|ad x.2;have:=dE b i2;rw[dH c]at d;rw[fK,m8];exact⟨S,nQ b i2⟩
def lD.wt{a}{b}(H:lD a b)(c:bY a):m8 b+1=G a\/a=[]:=by
 by_cases d:a=[]
 .exact .inr d
 .left;have:=(aeS λx f=>(H.ok x f).1).1;rw[H.prod,dH<|oC a,Jj c]at this;exact this.symm
def arC{b}(g:sz b=2):∃r,X 1-K r∣b:=by
 have f:b≠0:=λe=>by rw[e,kd]at g;omega
 let ⟨c,hc,hm⟩:=Tc f;let ⟨a,a1,a2⟩:=kc<|K c*b;have d:sz (K c*b)=2:=by have:=dE (ts hc) f;rw[tA hc]at this;omega
 rw[<-a2]at d hm;rw[dH a1]at d;have e:=OU d<|Vg a1 hm;refine⟨-(Y a 0 0),Tb hc ?_⟩;rw[<-Ju,Fi,<-e,a2];exact dvd_refl _
def arD{a}(i:bY a)(b:G a=3)(l:∀r,ss a r 3≠0):bw (lx a):=by
 have c:sz (lx a)=3:=by rw[dH i,b]
 refine⟨S,λA B e=>?_⟩;have d:lx a≠0:=λe=>by rw[e,kd]at c;omega
 have f:A≠0:=λk=>d (by rw[e,k,zero_mul])
 have g:B≠0:=λk=>d (by rw[e,k,mul_zero])
 have m:=dE f g;have p:=dX f;have v:=dX g;rw[<-e,c]at m;by_cases k:sz A=2
 .exfalso;let ⟨r,n⟩:=arC k;refine l r ?_;have:=(aeP a r).2 (by rw[e];exact lQ n B);rwa[b]at this
 .omega
def arE(x:Rat):0<=x*x:=by
 rcases Rat.le_total (a:=0) (b:=x)with h|h
 .exact Rat.mul_nonneg h h
 .have c:0<=-x:=by grind
  have:=Rat.mul_nonneg c c;rwa[Rat.neg_mul,Rat.mul_neg,Fi]at this
def arF k:Rx.bw (lx [k*k+1,-(k+k),1]):=by
 refine arD (Or.inr OT) J λr e=>?_
 have e:((0*r+1)*r+ -(k+k))*r+(k*k+1)=0:=e;have h:=arE<|r-k;grind
end Go.El
namespace Go.El
open Go Go.Proofs Go.RowKit Fx
def Vx{P:I->Prop}(a:∃n,P n):∃n,P n/\∀k,k<n->¬P k:=by
 let ⟨n,b⟩:=a;induction n using Nat.strongRecOn with
 |_ n c=>
  by_cases e:∃k,k<n/\P k
  .let ⟨k,d,h2⟩:=e;exact c k d h2
  .exact⟨n,b,λk f g=>e ⟨k,f,g⟩⟩
section
variable{p:I}
def arG(H:aX p)(a B:Fx p) i:pk (a-B) (p^i)=pk a (p^i)-pk B (p^i):=
 D1 (by rw[<-Mc H,kL])
def aeT(H:aX p){Q:Fx p}(b:bw Q){i m}(a:Q∣pk X (p^(i+m))-pk X (p^i)):Q∣pk X (p^m)-X:=by rw[om,fR,rV,<-arG H]at a;exact MO H b _ a
def aeU(H:aX p)(i:I):∀a:V Z,ev (a.map<|K (p:=p)) (pk X<|p^i)=pk (fx<|a++[1]) (p^i)
 |[]=>by rw[sV,uT,wg];rfl
 |c::a=>by rw[kU,D5,Mc H,RY H,qK,<-aeU H i a];rfl
def arH(H:aX p){d}(l:Mon p d)(v:bw (fx d:Fx p)):(fx d:Fx p)∣pk X (p^(G d-1))-X:=by
 have A:sz (fx d:Fx p)=G d:=bO l.c;have D:2<=G d:=by have:=v.1;omega
 have F:=H.hp.1;have ex:∃m,0<m/\(fx d:Fx p)∣pk X (p^m)-X:=by
  have f:=λi=>pO H l.c l.ne<|pk X<|p^i
  have x:∀i r,ad (Y (eW H d<|pk X<|p^i) r 0)<p:=λi r=>by have:=((f i).1.1 r);omega
  let ⟨i,j,I,_,P⟩:=Ni (p^(G d-1)) (p^(G d-1)+1) (λi=>code p (λr=>ad<|Y (eW H d<|pk X<|p^i) r 0)<|G d-1) (di _) λi _=>IF _ _ λr _=>x i r
  have Q:=Tl _ _ _ (λr _=>x i r) (λr _=>x j r) P;have e:eW H d (pk X<|p^i)=eW H d (pk X<|p^j):=by
   refine pL (p:=p) (f i).1 (f j).1<|mk_eq.2<|Cg.of λr=>?_;by_cases B:r<G d-1
   .have J:=(f i).1.1 r;have L:=(f j).1.1 r;have M:=Q r B;show Y (eW H d<|pk X<|p^i) r 0%_=Y (eW H d<|pk X<|p^j) r 0%_;have:Y (eW H d<|pk X<|p^i) r 0=Y (eW H d<|pk X<|p^j) r 0:=S;rw[this]
   .have N:=(f i).2.1;have O:=(f j).2.1;show Y (eW H d<|pk X<|p^i) r 0%_=Y (eW H d<|pk X<|p^j) r 0%_;rw[cF _ S,cF _ S]
  obtain⟨m,rfl⟩:∃m,j=i+m:=⟨j-i,S⟩;refine⟨m,S,aeT H v (i:=i) ?_⟩;have C:=(f i).2.2;rw[e]at C;exact kM<|lR (kM C) (f<|i+m).2.2
 let ⟨m,⟨R,m1⟩,U⟩:=Vx ex;have W:¬m+1<sz (fx d:Fx p):=λh=>Zs H v R h m1
 obtain⟨g,rfl⟩:∃g,d=g++[1]:=⟨d.dropLast,by
  have e:=Vy l.ne;have o:d.getLast l.ne=1:=by have:=l.one;rw[aF,bD S]at this;rw[arI];exact this
  rw[o]at e;exact e.symm⟩
 have B:G (g++[(1:Z)])=G g+1:=ax;have s:m<=G g:=by
  refine dQ λT=>?_
  refine roots H v (g.map<|K (p:=p)) ((be m).map λi=>pk X<|p^i) bP (λy t=>?_) ?_
  .obtain⟨i,_,rfl⟩:=kY.1 t;rw[aeU H];obtain⟨k,u⟩:∃k,p^i=k+1:=⟨p^i-1,by have:=lN (n:=i) (S:0<p);omega⟩;rw[u,pk];exact dvd_mul_left _ _
  .refine wh.2<|Ea ?_ FA;intro a b V E w z;have E:=jO.1 E;obtain⟨k,rfl⟩:∃k,b=a+k:=⟨b-a,S⟩;exact U k S ⟨S,aeT H v<|kM z⟩
 rw[B];have:m=G g:=S;rwa[this]at m1
end
def MD.mul{d b}{g K}(f:MD d g)(k:MD b K):MD (d+b) (g*K):=by
 refine⟨?_,λi l=>?_⟩
 .rw[PS.gG,ya (a:=d) S λi l m=>?_]
  .rw[(S:d+b-d=b),f.one,k.one];rfl
  .by_cases c:d<i
   .rw[f.z i c,ko]
   .rw[k.z _ S,dI]
 .rw[PS.gG,nk λj n=>?_];by_cases c:d<j
  .rw[f.z j c,ko]
  .rw[k.z _ S,dI]
def MD.arJ:MD 0 (1:PS):=⟨J,λi a=>by show(if i=0 then(1:Z)else 0)=0;rw[M S]⟩
def Vz:∀{l:V (V Z)},(∀f∈l,aG f)->MD (b7 l) (jB l)
 |[],_=>MD.arJ
 |f::l,a=>(a f ax).q6.mul<|Vz λx hx=>a x iB
section
variable{p:I}
def VA(H:aX p){f:V Z}:∀{l:V (V Z)},(∀a∈l,Co (fx f:Fx p) (fx a))->Co (fx f:Fx p) (fj l)
 |[],_=>⟨0,1,by rw[zero_mul,zero_add];exact one_mul 1⟩
 |a::l,b=>(b a ax).mul (VA H λc d=>b c<|by simp[d])
def aeV:∀{X Y:V (V Z)},X.length=G Y->(∀i,i<X.length->(fx (X.getD i []):Fx p)=fx (Y.getD i []))->(fj X:Fx p)=fj Y
 |[],[],_,_=>rfl
 |x::X,b::Y,hl,a=>by rw[fj,fj,show(fx x:Fx p)=fx b from a 0 ax,aeV (X:=X) (Y:=Y) wU λi hi=>a (i+1) yZ]
def aeW(H:aX p){k:I}(hk:1<=k):∀{X c:V (V Z)},X.length=G c->(∀i,i<X.length->aG (X.getD i [])/\aG (c.getD i [])/\G (X.getD i [])=G (c.getD i [])/\(fx (X.getD i []):Fx p)=fx (c.getD i []))->X.Pairwise (λx g=>Co (fx x:Fx p)<|fx g)->Cg ((p:Z)^k) (jB X) (jB c)->∀i,i<X.length->Cg ((p:Z)^k) (h<|X.getD i []) (h<|c.getD i [])
 |[],_,_,_,_,_,i,hi=>absurd hi ax
 |x::X,g::c,hl,bW,hp,hc,i,hi=>by
  let ⟨p1,p2⟩:=im.1 hp;have d:X.length=G c:=wU;have l:∀i,i<X.length->aG (X.getD i [])/\aG (c.getD i [])/\G (X.getD i [])=G (c.getD i [])/\(fx (X.getD i []):Fx p)=fx (c.getD i []):=λi hi=>bW (i+1) yZ
  let ⟨E,F,K,P⟩:=bW 0 ax;have E:aG x:=E;have F:aG g:=F;have K:G x=G g:=K;have P:(fx x:Fx p)=fx g:=P;have q:∀f∈X,aG f:=λf Q=>by obtain⟨j,C,rfl⟩:=AM Q;have:=(l j C).1;rwa[aF,bD C]at this
  have s:∀f∈c,aG f:=λf Q=>by obtain⟨j,C,rfl⟩:=AM Q;have:=(l j S).2.1;rwa[aF,bD C]at this
  have t:b7 X=b7 c:=by
   have R:∀{A B:V (V Z)},G A=G B->(∀i,i<G A->G (A.getD i [])=G (B.getD i []))->b7 A=b7 B:=by
    intro A;induction A with
    |nil=>intro B m _;rw[et m.symm]
    |cons a A u=>
     intro B m o
     match B,m with
     |b::B,m=>
      rw[b7,b7,u (by simpa using m) λi hi=>o (i+1) yZ,show G a=G b from o 0 ax]
   exact R d λi hi=>(l i hi).2.2.1
  have n:=aeV (p:=p) d λi hi=>(l i hi).2.2.2
  have U:=Vz q;have r:MD (b7 X) (jB c):=t▸Vz s;have W:=E.q6;have e:MD (G x-1) (h g):=K▸F.q6;have v:Co (fx x:Fx p) (fj X):=VA H p1;rw[vf]at v;rw[vf,vf]at n;let ⟨r1,w⟩:=TZ H W e U r v (mk_eq.1 P) (mk_eq.1 n) k hk hc;match i,hi with
  |0,_=>exact r1
  |i+1,hi=>exact aeW H hk d l p2 w i yZ
end
structure q'(p k:I)(f:V Z)(l X:V (V Z)):Prop where
 len:X.length=l.length
 ok:∀i,i<l.length->aG (X.getD i [])/\(X.getD i []).length=(l.getD i []).length/\(fx (X.getD i []):Fx p)=fx (l.getD i [])/\∀a,cp ((X.getD i []).getD a 0) ((p:Z)^k)=(X.getD i []).getD a 0
 pr:Cg ((p:Z)^k) (h f) (jB X)
def q'.uniq{p}(H:aX p){k}(hk:1<=k){f}{l X E}(a:q' p k f l X)(n:q' p k f l E)(hl:l.Pairwise (λx F=>Co (fx x:Fx p)<|fx F)):X=E:=by
 have e:X.length=G E:=by rw[a.len,n.len]
 have q:X.Pairwise (λx F=>Co (fx x:Fx p)<|fx F):=by
  refine vi.2 λi j b W C=>?_
  have c:i<G l:=by rw[<-a.len];exact b
  have d:j<G l:=by rw[<-a.len];exact W
  have m:=vi.1 hl i j c d C;have g:=(a.ok i c).2.2.1;have r:=(a.ok j d).2.2.1;rw[aF,aF,bD b,bD c]at g;rw[aF,aF,bD W,bD d]at r;have g:(fx X[i]:Fx p)=fx l[i]:=g;have r:(fx X[j]:Fx p)=fx l[j]:=r;rw[g,r];exact m
 have s:=aeW H hk e (λi b=>by
  have b:i<G l:=by rw[<-a.len];exact b
  let ⟨K,v,P,_⟩:=a.ok i b;let ⟨Q,B,R,_⟩:=n.ok i b;exact⟨K,Q,v.trans B.symm,P.trans R.symm⟩) q (a.pr.symm.trans n.pr)
 refine lq e λi m g=>?_
 have b:i<G l:=by rw[<-a.len];exact m
 let ⟨K,v,P,h⟩:=a.ok i b;let ⟨Q,B,R,o⟩:=n.ok i b;have U:=s i m;rw[aF,bD m]at K v P h U;rw[aF,bD g]at Q B R o U;refine sd (v.trans B.symm) λj _=>?_
 have t:=h j;have u:=o j;have w:=U.at j;exact t.symm.trans<|(EL w).trans u
def qY.lfO{p}{a}{b}(f:qY p a (λi=>b.getD i []) b.length) c:q' p (c+1) a b (tM p a (λi=>b.getD i []) b.length<|c+1):=by
 have g:=f.pw c;have k:∀i,i<b.length->(tM p a (λi=>b.getD i []) b.length<|c+1).getD i []=(cM p a (λi=>b.getD i []) b.length c i).map (cp · ((p:Z)^(c+1))):=λi d=>by show((be b.length).map λi=>(cM p a (λi=>b.getD i []) b.length c i).map (cp · ((p:Z)^(c+1)))).getD i []=_;rw[aF,gj,jW d];rfl
 refine⟨by simp[tM],λi d=>?_,?_⟩
 .let ⟨l,m⟩:=f.one c d;rw[k i d];refine⟨wE g m,by rw[cL,l],?_,λj=>?_⟩
  .have:=f.image c d;rw[<-this,pK,D6]
  .rw[m0 _ S];exact EL<|tR S _
 .refine(f.all c).2.2.trans ?_;show Cg _ _ (jB<|(be b.length).map λi=>(cM p a (λi=>b.getD i []) b.length c i).map (cp · ((p:Z)^(c+1))));rw[Je];refine IP _ λi d=>Cg.of λj=>?_
  show Y (cM p a (λi=>b.getD i []) b.length c i) j 0%_=((cM p a (λi=>b.getD i []) b.length c i).map (cp · ((p:Z)^(c+1)))).getD j 0%_;rw[m0 _ S,tR S]
section
variable{p:I}
def aeX(H:aX p){F:Fx p}{d}(f:F≠0)(m:2<=sz F)(g:∀Q,bw Q->Q∣F->d+1<=sz Q)(r:sz F<=2*d):bw F:=by
 refine⟨m,λA B e=>?_⟩;have a:A≠0:=λb=>f (by rw[e,b,zero_mul])
 have c:B≠0:=λb=>f (by rw[e,b,mul_zero])
 have n:=dE H a c;have v:=dX H.pos a;have x:=dX H.pos c;rw[<-e]at n;refine dQ λi=>?_
 have C:sz A≠1:=λe=>i<|.inl e
 have E:sz B≠1:=λe=>i<|.inr e
 let ⟨Q,q1,k⟩:=qO H _ A (di _) S;let ⟨R,r1,l⟩:=qO H _ B (di _) S;have K:=g Q q1 (by rw[e];exact lQ k B);have P:=g R r1 (by rw[e];exact dz l A);have U:=fV H k a;have W:=fV H l c;omega
def aeY(H:aX p){Q}(d:bw Q):∃b,Mon p b/\bw (fx b:Fx p)/\(fx b:Fx p)∣Q/\Q∣fx b/\G b=sz Q:=by
 obtain⟨a,f,rfl⟩:=kc H.pos Q;have l:a≠[]:=λe=>d.ne H (by rw[e,jX])
 let ⟨m1,i,m,⟨c,n⟩,k⟩:=HH H f l;refine⟨jL p a,m1,⟨?_,λA B e=>?_⟩,m,⟨K c,n⟩,by rw[i,bO f]⟩
 .have:=d.1;rw[bO f]at this;rw[bO m1.c,i];exact this
 .rw[e,<-mul_assoc]at k;rcases d.2 _ _ k with h|h
  .let ⟨r,g⟩:=tu H h;exact .inl (xY H (B:=r*K (Y a (G a-1) 0))<|by rw[mul_assoc];exact g)
  .exact .inr h
structure Ch(p:I)(f:V Z)(d:I):Prop where
 aG:Mon p f
 jN:jz (fx f:Fx p)
 low:∀Q,bw Q->Q∣(fx f:Fx p)->d+1<=sz Q
structure sx(p:I)(f:V Z)(d:I):Prop where
 aG:Mon p f
 jN:jz (fx f:Fx p)
 OY:∀Q,bw Q->Q∣(fx f:Fx p)->sz Q=d+1
def Ch.fq(H:aX p){f}{d}(a:Ch p f d)(b:2<=G f)(g:G f<=2*d):bw (fx f:Fx p):=
 aeX H (a.aG.gI H) (by rw[bO a.aG.c];exact b) a.low (by rw[bO a.aG.c];exact g)
def sx.fq(H:aX p){f}{d}(a:sx p f d)(b:2<=G f)(k:G f<=d+1)(l:1<=d):bw (fx f:Fx p):=
 aeX H (d:=d) (a.aG.gI H) (by rw[bO a.aG.c];exact b) (λQ g i=>by rw[a.OY Q g i];exact a8 _) (by rw[bO a.aG.c];omega)
def sx.ex(H:aX p){f}{d}(b:sx p f d)(i:2<=G f):∃a,Mon p a/\bw (fx a:Fx p)/\(fx a:Fx p)∣fx f/\G a=d+1:=by let ⟨Q,q1,g⟩:=qO H _ (fx f:Fx p) (di _) (by rw[bO b.aG.c];exact i);let ⟨a,r1,k,l,n,m⟩:=aeY H q1;exact⟨a,r1,k,dvd_trans l g,by rw[m,b.OY Q q1 g]⟩
def On(H:aX p){f g}(b:Mon p f)(a:Mon p g):(aJ f g p).1.length=G f-(G g-1):=by let ⟨_,_,_,_,_,h⟩:=iO H.hp H.le b.c.1 a.c a.ne;exact h
def tX(H:aX p){f g}(b:Mon p f)(a:Mon p g)(d:(fx g:Fx p)∣fx f):Mon p (aJ f g p).1/\(fx f:Fx p)=fx (aJ f g p).1*fx g/\(aJ f g p).1.length+G g=G f+1/\G g<=G f:=by
 have i:G g<=G f:=by have:=fV H d<|b.gI H;rwa[bO a.c,bO b.c]at this
 have k:=a.pos;have:=On H b a;exact⟨Ec H b a i,rZ H b.c a.c a.ne d,S,i⟩
def sx.parts(H:aX p){f g}{d}(a:sx p f d)(l:Mon p g)(c:(fx g:Fx p)∣fx f):sx p g d/\sx p (aJ f g p).1 d:=by let ⟨q1,q2,m,n⟩:=tX H a.aG l c;have b:(fx (aJ f g p).1:Fx p)∣fx f:=HT;exact⟨⟨l,a.jN.of_dvd c,λQ i k=>a.OY Q i<|dvd_trans k c⟩,⟨q1,a.jN.of_dvd b,λQ i k=>a.OY Q i<|dvd_trans k b⟩⟩
def pQ.app{f g}{l m}{F}(a:pQ p g l)(b:pQ p f m)(c:(fx F:Fx p)=fx f*fx g):pQ p F (l++m):=
 ⟨λx d=>(b8.1 d).elim (a.parts x)<|b.parts x,by rw[BG,a.prod,b.prod,c,mul_comm]⟩
def Ch.step(H:aX p){f v b}{d}(a:Ch p f d)(d1:1<=d)(R:aY p b)(E:(fx f:Fx p)∣fx v-pk X (p^d))(F:(fx b:Fx p)=fx v-X):sx p (c8 p f b) d/\Ch p (aJ f (c8 p f b) p).1 (d+1)/\(fx (c8 p f b):Fx p)∣fx f:=by
 let ⟨m1,l,W,U,V,j⟩:=qQ H a.aG.c R a.aG.ne;let ⟨q1,q2,u,w⟩:=tX H a.aG m1 l;generalize c8 p f b=g at*;generalize (aJ f g p).1=o at*;have i:(fx o:Fx p)∣fx f:=HT;refine⟨⟨m1,a.jN.of_dvd l,λQ m k=>?_⟩,⟨q1,a.jN.of_dvd i,λQ m k=>?_⟩,l⟩
 .have t:=a.low Q m<|dvd_trans k l;have r:Q∣fx v-X:=by rw[<-F];exact dvd_trans k W
  have x:Q∣pk X (p^d)-X:=lR (kM<|dvd_trans (dvd_trans k l) E) r;have C:¬d+1<sz Q:=λB=>Zs H m S B x
  omega
 .have t:=a.low Q m<|dvd_trans k i;refine dQ λy=>?_
  let ⟨q,r1,K,P,z,A⟩:=aeY H m;have n:(fx q:Fx p)∣fx f:=dvd_trans P<|dvd_trans k i;have r:=arH H r1 K;rw[(S:G q-1=d)]at r;have x:(fx q:Fx p)∣fx b:=by rw[F];exact lR (dvd_trans n E) r
  have C:(fx q:Fx p)∣fx g:=by rw[j];exact dvd_add (dz n U)<|dz x V
  exact a.jN _ K (by rw[q2];exact tx (dvd_trans P k) C)
structure sy(p:I)(f R:V Z):Prop where
 aG:Mon p R
 jN:jz (fx R:Fx p)
 iff:∀Q,bw Q->(Q∣(fx f:Fx p)↔Q∣fx R)
 len:R.length<=f.length
def sy.one(H:aX p){f}(a:Mon p f)(i:G f<=1):sy p f f:=
 ⟨a,λQ b d=>by have g:=fV H d<|a.gI H;have k:=dE H (b.ne H)<|b.ne H;have l:=b.1;rw[bO a.c]at g;omega,λQ _=>Iff.rfl,a8 _⟩
def sy.root(H:aX p){f R}(c:Mon p f)(d:2<=G f)(g:bp (fx f:Fx p)=0)(a:sy p (ia p f<|fi p<|G f) R):sy p f R:=by
 let ⟨m,i,n,r⟩:=Ia H c d g;refine⟨a.aG,a.jN,λQ b=>?_,by have:=a.len;omega⟩;rw[<-a.iff Q b,i];refine⟨MO H b p,λk=>?_⟩;obtain⟨q,l⟩:∃q,p=q+1:=⟨p-1,qM⟩;have e:pk (fx (ia p f<|fi p<|G f):Fx p) p=pk (fx<|ia p f<|fi p<|G f) (q+1):=by rw[<-l]
 rw[e];exact dz k _
def VB(H:aX p){a b}(d:Mon p a)(f:Mon p b):Mon p (bT a b p)/\G (bT a b p)+1=G a+G b:=by have i:=(je H.pos a b);have n:=rX (p:=p) a b;have g:=dE H (d.gI H)<|f.gI H;rw[<-n,bO i,bO d.c,bO f.c]at g;have v:=d.pos;have x:=f.pos;refine⟨⟨i,λe=>by rw[e]at g;simp at g;omega,?_⟩,g⟩;have k:=(show aG a from⟨d.ne,d.one⟩).q6.mul (show aG b from⟨f.ne,f.one⟩).q6;have l:=(rS a b (p:Z)).at (G a-1+(G b-1));rw[k.one,H.one,cc]at l;have r:G (bT a b p)-1=G a-1+(G b-1):=S;rw[r];have m:=i.1<|G a-1+(G b-1);rwa[gT m.1 m.2]at l
def sy.step(H:aX p){f l g rest c}(m:Mon p f)(h2:2<=G f)(n:aY p l)(hD:(fx l:Fx p)=bp (fx f))(E:l≠[])(eg:g=c8 p f l)(i:sy p g rest)(ec:c=c8 p (aJ f g p).1 rest):G g<G f/\sy p f (bT (aJ f g p).1 (aJ rest c p).1 p):=by
 let ⟨m1,j,o,U,V,q⟩:=qQ H m.c n m.ne;rw[<-eg]at m1 j o q;have I:G g<=G f-1:=by
  have F:(fx l:Fx p)≠0:=λe=>by rw[<-jX]at e;exact E<|pL n (nS H.pos) e
  have J:=fV H o F;have K:=Bz H (fx f:Fx p);rw[<-hD,bO m.c]at K;rw[bO m1.c]at J;omega
 let ⟨q1,s,O,Y⟩:=tX H m m1 j;have P:jz (fx (aJ f g p).1:Fx p):=R6 H (m.gI H) s (by rw[<-hD];exact q);generalize (aJ f g p).1=part at*;let ⟨R,t,u,L,T,y⟩:=qQ H q1.c i.aG.c q1.ne;rw[<-ec]at R t u y;let ⟨r1,r,Z,r4⟩:=tX H i.aG R u;generalize (aJ rest c p).1=b at*;have e:(fx (bT part b p):Fx p)=fx part*fx b:=rX part b;let ⟨t1,t2⟩:=VB H q1 r1;have pc:=R.pos;refine⟨S,⟨t1,λQ a W=>?_,λQ a=>?_,by have:=i.len;omega⟩⟩
 .rw[e]at W;have X:Q∣fx part->Q∣fx b->False:=λd x=>by
   have B:Q∣fx rest:=by rw[r];exact lQ x _
   have M:Q∣fx c:=by rw[y];exact dvd_add (dz d L)<|dz B T
   exact i.jN Q a (by rw[r];exact tx x M)
  by_cases k:Q∣fx part
  .let ⟨w,hw⟩:=k;let ⟨v,z⟩:=W;have N:w*fx b=v*Q:=by refine qN H (a.ne H) (?_:w*fx b*Q=v*Q*Q);rw[hw]at z;rw[mul_assoc v,<-z];ac_rfl
   rcases a.nq H ⟨v,N⟩with d|d
   .exact P Q a (by rw[hw];exact tx d<|dvd_refl Q)
   .exact X ⟨w,hw⟩ d
  .have C:Co Q (fx part):=(a.or H<|fx part).resolve_left k;have d:Q*Q∣fx b:=by have K:Co (fx part) (Q*Q):=C.symm.mul C.symm;exact K.symm.dvd (by exact W)
   exact i.jN Q a (by rw[r];exact lQ d _)
 .rw[e,s];have A:=i.iff Q a;refine⟨λk=>?_,λk=>?_⟩
  .rcases a.nq H k with k|k
   .exact lQ k _
   .have x:=A.1 k;rw[r]at x;rcases a.nq H x with B|B
    .exact dz B _
    .exact lQ (dvd_trans B t) _
  .rcases a.nq H k with k|k
   .exact lQ k _
   .exact dz (A.2<|by rw[r];exact lQ k _) _
def aeZ(H:aX p){Q:Fx p}(a:bw Q):∀{l:V (V Z)},Q∣eD p l->∃g∈l,Q∣fx g
 |[],b=>absurd b<|a.uU H
 |g::l,b=>by
  rcases a.nq H (show Q∣fx g*eD p l from b)with k|k
  .exact⟨g,ax,k⟩
  .let ⟨x,h1,h2⟩:=aeZ H a k;exact⟨x,zA,h2⟩
def ae0(H:aX p){f R}{l}(i:sy p f R)(b:pQ p R l):wv p f l:=by
 refine⟨λg c=>?_,?_⟩
 .let ⟨r,g2,m⟩:=b.parts g c;exact⟨r,g2,m,(i.iff _ m).2<|by rw[<-b.prod];exact x6 p c⟩
 .have d:∀l:V (V Z),(∀g∈l,bw (fx g:Fx p))->eD p l∣fx R->l.Pairwise λx y=>x≠y:=by
   intro l;induction l with
   |nil=>intro _ _;exact List.Pairwise.nil
   |cons g l v=>
    intro n a
    refine im.2 ⟨λk B e=>?_,v (λx hx=>n x iB) (dvd_trans (dvd_mul_left _ _) a)⟩
    subst e
    exact i.jN _ (n g ax)<|dvd_trans (tx (dvd_refl _)<|x6 p B) a
  exact d _ (λg c=>(b.parts g c).2.2) (by rw[b.prod];exact dvd_refl _)
def ae1:∀(a:V (V Z))(f:V Z)(m:I)(l:V (V Z×Z)),(∀x∈l,x∈(fY p m a (f,l)).2)/\∀g∈a,∃n,(g,n)∈(fY p m a (f,l)).2
 |[],f,m,l=>⟨λx hx=>hx,λg c=>by cases c⟩
 |g::a,f,m,l=>by
  let ⟨b,h2⟩:=ae1 a (pull p g (G f+1) f 0).1 m<|l++[(g,(((pull p g (G f+1) f 0).2:I):Z)*(m:Z))];rw[fY];refine⟨λx hx=>b x iB,λx hx=>?_⟩;rcases df.1 hx with rfl|hx
  .exact⟨_,b _<|jo _<|iu.2 J⟩
  .exact h2 x hx
def arL(H:aX p){f R}{l}(P:Mon p f)(x:sy p f R)(d:pQ p R l):pT p (fx f) (fY p 1 l (f,[])).2:=by
 obtain⟨a,t,u⟩:=Ic H l f [] (mY.start P) (ae0 H x d);have b:∀Q,bw Q->Q∣fx (fY p 1 l (f,[])).1->False:=λQ i b=>by
  have K:Q∣fx f:=by rw[a.prod,rT];exact lQ b _
  have B:=(x.iff Q i).1 K;rw[<-d.prod]at B;obtain⟨g,C,U⟩:=aeZ H i B;obtain⟨n,E⟩:=(ae1 l f 1 []).2 g C;have W:=a.nd _ E;have k:=(d.parts g C).2.2;obtain⟨w,F⟩:=U;rcases k.2 _ _ F with e|e
  .obtain⟨v,X⟩:=tu H e;refine W<|dvd_trans ⟨v,?_⟩ b;show Q=v*fx g;rw[F,<-mul_assoc,X,one_mul]
  .have:=i.1;omega
 have j:=a.aG.pos;have o:(fx (fY p 1 l (f,[])).1:Fx p)=1:=by
  have m:(fY p 1 l (f,[])).1.length<=1:=by
   refine dQ λE=>?_
   obtain⟨Q,q1,q⟩:=qO H _ (fx (fY p 1 l (f,[])).1:Fx p) (di _) (by rw[bO a.aG.c];omega);exact b Q q1 q
  rw[<-uT];congr 1;have r:=a.aG.one;generalize (fY p 1 l (f,[])).1=s at*;match s,m,j,r with
  |[c],_,_,r=>rw[show c=1 from r]
 refine⟨a.fq,a.ds,?_⟩;have:=a.prod;rw[o,rT,one_mul]at this;exact this.symm
end
def m9(a:V Z)(c:Z)(b:V Z):V Z:=(be<|G a).map λi=>Y a i 0+c*Y b i 0
def Jv a c b:G (m9 a c b)=G a:=by simp[m9]
def OZ a d b(f:G b<=G a) i:Y (m9 a d b) i 0=Y a i 0+d*Y b i 0:=by
 by_cases c:i<G a
 .unfold m9;rw[aF,gj,jW c];rfl
 .rw[cF _ (by rw[Jv];omega),cF a S,cF b S,dI];rfl
def ae2 a c b(d:G b<=G a):h (m9 a c b)=h a+PS.K c*h b:=PS.ext λi=>by rw[PS.eR,PS.eS];exact OZ a c b d i
def VC{a b}c(d:aG a)(f:G b<G a):aG (m9 a c b):=by refine⟨λe=>by have:=Jv a c b;rw[e]at this;exact d.1<|et this.symm,?_⟩;rw[Jv,OZ a c b S,d.2,cF b S,dI];rfl
section
variable{p:I}
structure vq(p:I)(f g h a K:V Z)(b:I):Prop where
 Gm:aG a
 Gl:a.length=g.length
 Gp:(fx a:Fx p)=fx g
 Gr:∀i,0<=a.getD i 0/\a.getD i 0<(p:Z)^b
 Km:aG K
 Kl:K.length=h.length
 Kp:(fx K:Fx p)=fx h
 Kr:∀i,0<=K.getD i 0/\K.getD i 0<(p:Z)^b
 pr:Cg ((p:Z)^b) (ps f) (ps a*ps K)
def vq.start{f g a}(b:Mon p g)(d:Mon p a)(l:(fx f:Fx p)=fx g*fx a):vq p f g a g a 1:=by have k:(p:Z)^1=p:=Be _;refine⟨⟨b.ne,b.one⟩,J,J,λi=>by rw[k];exact b.c.1 i,⟨d.ne,d.one⟩,J,J,λi=>by rw[k];exact d.c.1 i,?_⟩;rw[k];exact mk_eq.1<|show Fx.mk (h f) (aU.ps p f)=Fx.mk (h g*h a) ((aU.ps p g).mul<|aU.ps p a)from l
def ae3{b d}{a}(m:0<a)(c:∀i,0<=Y b i 0/\Y b i 0<a)(f:∀i,0<=Y d i 0/\Y d i 0<(p:Z))(g:G d<=G b) i:0<=Y (m9 b a d) i 0/\Y (m9 b a d) i 0<a*p:=by rw[OZ b a d g];let ⟨a1,a2⟩:=c i;let ⟨k,n⟩:=f i;have r:0<=a*Y d i 0:=jm S k;have l:a*(Y d i 0+1)<=a*p:=ja S S;rw[nc,lA]at l;omega
def ae4{a d}{b}(c:G d<=G a)(f:(p:Z)∣b):(fx (m9 a b d):Fx p)=fx a:=by refine Ma<|Cg.of λi=>?_;obtain⟨z,rfl⟩:=f;rw[cc,cc,OZ _ _ _ c,jb,DC]
def arM(H:aX p){g b a d}(f:Mon p g)(m:Mon p b)(Qp:2<=G g)(he:aY p a)(hl:G a+2<=G g+b.length)(ht:(fx g:Fx p)∣fx d*fx b-1):
  (aJ (bT d a p) g p).2.length<G g/\aY p (aJ (bT d a p) g p).2/\
  aY p (aJ (au<|hZ a (bT (aJ (bT d a p) g p).2 b p) p) g p).1/\(aJ (au<|hZ a (bT (aJ (bT d a p) g p).2 b p) p) g p).1.length<b.length/\
  (fx a:Fx p)=fx (aJ (bT d a p) g p).2*fx b+fx (aJ (au<|hZ a (bT (aJ (bT d a p) g p).2 b p) p) g p).1*fx g:=by
 have n:=je H.pos d a
 let ⟨_,_,_,d4,d5,_⟩:=iO H.hp H.le n.1 f.c f.ne
 have P:=HG H n f.c f.ne
 rw[rX]at P
 have r:=d5 n
 generalize (aJ (bT d a p) g p).2=dg at*
 have v:(fx (au<|hZ a (bT dg b p) p):Fx p)=fx a-fx dg*fx b:=by rw[RS,rX]
 have k:aY p (au<|hZ a (bT dg b p) p):=gH H.pos<|Bp H.pos _ _
 generalize au (hZ a (bT dg b p) p)=s at*
 have o:(fx g:Fx p)∣fx s:=by rw[v];have q:(fx g:Fx p)∣fx dg*fx b-fx d*fx a*fx b:=pJ P<|nT _ _;have Q:(fx g:Fx p)∣fx a*(fx d*fx b)-fx a*1:=pJ (nT _ _) ht;rw[mul_one]at Q;have u:(fx g:Fx p)∣fx dg*fx b-fx a:=lR q (by have w:fx d*fx a*fx b=fx a*(fx d*fx b:Fx p):=eT;rw[w];exact Q);exact kM u
 have B:=rZ H k f.c f.ne o
 let ⟨_,R,_,_,_,C⟩:=iO H.hp H.le k.1 f.c f.ne
 have y:G s+2<=G g+b.length:=by
  have E:=Bv H.pos (fx a:Fx p)<|fx dg*fx b;rw[<-v,bO k,bO he]at E;have U:sz (fx dg*fx b:Fx p)+2<=G g+b.length:=by
   have z:=m.pos;by_cases i:dg=[]
   .rw[i,jX,zero_mul,kd H.pos];omega
   .have A:(fx dg:Fx p)≠0:=λa=>i (pL r (nS H.pos)<|a.trans jX.symm)
    have:=dE H A<|m.gI H;rw[bO r,bO m.c]at this;omega
  omega
 have F:aY p (aJ s g p).1:=by
  refine⟨R,?_⟩;by_cases i:s=[]
  .left;refine et ?_;rw[C,i];simp
  .have D:(fx s:Fx p)≠0:=λa=>i (pL k (nS H.pos)<|a.trans jX.symm)
   let ⟨x,hx,ex⟩:=kc H.pos (fx (aJ s g p).1:Fx p);have l:(fx x:Fx p)≠0:=λa=>D (by rw[B,<-ex,a,zero_mul])
   have E:=dE H l<|f.gI H;rw[ex,<-B,bO k,<-ex,bO hx,bO f.c]at E;right;have U:(aJ s g p).1.length=G x:=by rw[C];omega
   have W:=Zj ex<|G x-1;have X:=R<|G x-1;have j:=hx.1<|G x-1;rw[gT X.1 X.2,gT j.1 j.2]at W;rw[U,<-W];rcases hx.2 with K|K
   .exact absurd (by rw[K,jX]) l
   .exact K
 refine⟨S,r,F,?_,?_⟩
 .rw[C];have z:=m.pos;by_cases i:G s<=G g-1
  .omega
  .omega
 .rw[<-B,v,add_comm,kL]
def vq.step(H:aX p){f g r k K n a c}{d}(l:vq p f g r k K d)(j1:1<=d) v(F:h f=h k*h K+PS.K ((p:Z)^d)*v)(R:Cg p (h n) v)
  (l1:G a<G g) (U:aY p a) (l2:G c<r.length) (c2:aY p c) (he:(fx n:Fx p)=fx a*fx r+fx c*fx g):vq p f g r (m9 k ((p:Z)^d) a) (m9 K ((p:Z)^d) c) (d+1):=by
 have O:=H.hp.1
 have P:(0:Z)<(p:Z)^d:=kV S
 have m:(p:Z)∣(p:Z)^d:=by obtain⟨i,rfl⟩:∃i,d=i+1:=⟨d-1,S⟩;rw[dK];exact B1 _ _
 have X:=l.Gl
 have o:=l.Kl
 have s:=ae3 (p:=p) P l.Gr U.1 S
 have t:=ae3 (p:=p) P l.Kr c2.1 S
 have u:=VC ((p:Z)^d) l.Gm (b:=a) S
 have D:=VC ((p:Z)^d) l.Km (b:=c) S
 have Q:=ae2 k ((p:Z)^d) a S
 have s2:=ae2 K ((p:Z)^d) c S
 refine⟨u,by rw[Jv,X],by rw[ae4 S m,l.Gp],λi=>by rw[dK];exact s i,D,by rw[Jv,o],by rw[ae4 S m,l.Kp],λi=>by rw[dK];exact t i,?_⟩
 rw[dK]
 obtain⟨q,eq⟩:∃q,q=(p:Z)^d:=⟨_,J⟩
 rw[<-eq]at F Q s2 m⊢
 have x:Cg p v (h a*h K+h c*h k):=by
  refine R.symm.trans ?_;have E:(fx n:Fx p)=fx a*fx K+fx c*fx k:=by rw[he,l.Kp,l.Gp]
  exact mk_eq.1<|show Fx.mk (h n) (aU.ps p n)=Fx.mk (h a*h K+h c*h k) (((aU.ps p a).mul<|aU.ps p K).add<|(aU.ps p c).mul<|aU.ps p k)from E
 rw[Q,s2]
 have E:(h k+PS.K q*h a)*(h K+PS.K q*h c)=h k*h K+PS.K q*(h a*h K+h c*h k)+PS.K q*(PS.K q*(h a*h c)):=by simp only[PS.mul_add,PS.add_mul];ac_rfl
 rw[E]
 refine Cg.Rn λi=>?_
 let ⟨z,T⟩:=x.dvd i
 let ⟨y,L⟩:=m
 rw[F,PS.eR,PS.eR,PS.eR,PS.eS,PS.eS,PS.eS,PS.eS]
 refine⟨z-y*(h a*h c) i,?_⟩
 generalize (h a*h K+h c*h k) i=A at*
 generalize (h a*h c) i=B at*
 generalize v i=W at*
 generalize (h k*h K) i=C at*
 have M:W=A+p*z:=S
 rw[M,DD,nc]
 have N:q*(q*B)=q*p*(y*B):=by
  conv=>lhs;rw[ew q (q*B)]
  rw[L];ac_rfl
 rw[N,jb q (p:Z) z]
 omega
end
noncomputable abbrev Ci{p:I}(H:aX p)(a:V Z):V (V Z×Z):=
 pS H (G<|jL p<|au<|md p a) (jL p<|au<|md p a) 1 []
noncomputable abbrev O0{p:I}(H:aX p)(a:V Z):V (V Z×Z):=ma (Ci H a)<|G (Ci H a)-1
def arN{p}(H:aX p)(c:p<=2147483647) a(v:G a<=10)(g:∀i,0<=Y a i 0)(k:au (md p a)≠[])(l:Mon p (jL p<|au<|md p a))(m:G (jL p<|au<|md p a)<=10)(d:G (Ci H a)<=12)(f:∀x∈Ci H a,G x.1<=1000):af j 12 [N u a,cU p] (.t [(ah,[.S MT (O0 H a)]),(ah,[.I .i64 0])]):=by
 refine aD Tryz.func12 ?_;have n:=H.hp.1;have b:(0:Z)<(p:Z):=S;have r:aY p (au<|md p a):=gH b<|pH b a;have B:G (au<|md p a)<=G a:=by have:=kK<|md p a;rwa[oU]at this
 refine e J<|L<|aO J J (Hh p H.hp c) J<|z J (λh=>bS)<|λ_=>ai ?_;refine aO J J (RK a p S S S g) J ?_;refine L<|e J<|z J (λh=>?_)<|λ_=>ai ?_
 .have h:(G (au<|md p a):Z)=0:=eq_of_beq h;exact absurd (et S) k
 refine t<|rc J J (Y' p H.hp S _ S r)<|uE J J (amk H _ l S)<|o J ?_;refine t<|nJ 4002000 J (amF _ d f) J J<|o J ?_;exact cD 4002000 J J J<|e J<|bU J
def arO{p}{l a}(b:l.Perm a):ib p l=ib p a:=by
 induction b with
 |nil=>rfl
 |cons x _ c=>rw[ib,ib,c]
 |swap x y l=>rw[ib,ib,ib,ib,<-mul_assoc,<-mul_assoc,mul_comm<|pk (fx y.1) _]
 |trans _ _ d h2=>rw[d,h2]
def pT.perm{p}{F}{l d}(a:pT p F l)(b:d.Perm l):pT p F d:=
 ⟨λx f=>a.parts x<|b.mem_iff.1 f,b.symm.pairwise a.ds (λc e=>c e.symm),(arO b).trans a.prod⟩
def wL(l:V (V Z×Z)):I:=(l.map λx=>(G x.1-1)*ad x.2).sum
def VD{p:I}(H:aX p){Q:Fx p}(b:Q≠0):∀a,sz (pk Q a)=(sz Q-1)*a+1
 |0=>by rw[show pk Q 0=1 from J,np H,Et]
 |a+1=>by have c:=dE H (tB H b a)<|tB H b 1;rw[<-rU,VD H b a,show pk Q 1=Q by rw[pk,pk,one_mul]]at c;have:=dX H.pos b;rw[D3];omega
def VE{p:I}(H:aX p):∀l:V (V Z×Z),(∀x∈l,Mon p x.1)->ib p l≠0/\sz (ib p l)=wL l+1
 |[],_=>⟨nn H,np H⟩
 |x::l,d=>by
  let ⟨f,h2⟩:=VE H l<|λy g=>d y<|uj _ g;have b:=d x<|Ao ..;have a:(fx x.1:Fx p)≠0:=λe=>b.ne<|pL b.c (nS H.pos)<|e.trans jX.symm
  have i:=dE H (tB H a<|ad x.2) f;refine⟨nQ H (tB H a _) f,?_⟩;rw[VD H a,bO b.c,h2]at i;rw[ib,show wL (x::l)=(G x.1-1)*ad x.2+wL l from J];omega
def arP{l}{x}(a:x∈l):(G x.1-1)*ad x.2<=wL l:=by
 induction l with
 |nil=>cases a
 |cons y l b=>
  rw[show wL (y::l)=(G y.1-1)*ad y.2+wL l from J]
  rcases df.1 a with rfl|a
  .omega
  .have:=b a;omega
def arQ{p}{l}(a:∀x∈l,Mon p x.1/\2<=G x.1/\bw (fx x.1:Fx p)/\1<=x.2):G l<=wL l:=by
 induction l with
 |nil=>exact aW _
 |cons y l b=>
  have:=b<|λx c=>a x<|uj _ c
  let ⟨_,h2,_,d⟩:=a y<|Ao ..
  rw[show wL (y::l)=(G y.1-1)*ad y.2+wL l from J,fu]
  have f:1*1<=(G y.1-1)*ad y.2:=ly S S
  omega
def pT.VF{p}(H:aX p){f}{l}(d:Mon p f)(a:pT p (fx f) l):G l+1<=G f/\∀x∈l,Mon p x.1/\2<=G x.1/\G x.1<=G f/\bw (fx x.1:Fx p)/\1<=x.2/\x.2+1<=(G f:Z):=by have g:=(VE H l<|λx b=>(a.parts x b).1).2;rw[a.prod,bO d.c]at g;refine⟨by have:=arQ a.parts;omega,λx b=>?_⟩;let ⟨k1,i,k,m⟩:=a.parts x b;have n:=arP b;have r:(G x.1-1)*1<=(G x.1-1)*ad x.2:=jw _ S;have v:1*ad x.2<=(G x.1-1)*ad x.2:=eB _ S;exact⟨k1,i,S,k,m,S⟩
def VG{a b}(c:jg a b=0):a=b:=by unfold jg at c;split at c<;>(try split at c)<;>omega
def ae5(a b:V Z):∀n,oy a b n=0->∀i,i<n->Y a i 0=Y b i 0
 |0,_,i,c=>by omega
 |n+1,c,i,f=>by
  rw[oy]at c;split at c
  .rename_i d;exact absurd c d
  .rename_i d;have d:jg (Y a n 0) (Y b n 0)=0:=S;by_cases e:i=n
   .subst e;exact VG d
   .exact ae5 a b n c i S
def arR{a b}(c:ic a b=0):a=b:=by
 unfold ic at c;split at c
 .rename_i d;have:=VG c;omega
 .rename_i d;have d:G a=G b:=S;refine lq d λi f g=>?_
  have:=ae5 a b _ c i f;rwa[aF,bD f,aF,bD g]at this
def arS{xs}(b:(ma xs<|G xs-1).Pairwise λx c=>x.1≠c.1){a}(f:a+1<G xs):ic (Y (ma xs<|G xs-1) a fA).1 (Y (ma xs<|G xs-1) (a+1) fA).1<0:=by
 have d:=aa2 xs (G xs-1) S a S;have g:=Ev xs<|G xs-1;rw[aa0]at d;have i:ic (Y (ma xs<|G xs-1) a fA).1 (Y (ma xs<|G xs-1) (a+1) fA).1≠0:=λe=>by have e:=arR e;rw[getM S,getM S]at e;exact vi.1 b a (a+1) S S S e
 omega
def wM{p}(H:aX p){f a}(c:aY p a)(d:aY p f)(b:f≠[]):aY p (aJ a f p).2/\(aJ a f p).2.length<G f/\(fx f:Fx p)∣fx (aJ a f p).2-fx a:=by let ⟨d1,d2,d3,d4,d5,d6⟩:=iO H.hp H.le c.1 d b;have g:=bX.2 b;exact⟨d5 c,S,HG H c d b⟩
def O1{p}(H:aX p) f a(n:I)(lf:G f<=200)(g:aY p f)(c:f≠[])(Q:aY p a)(U:G a<=200)(W:n<18446744073709551616):
  af j 69 [N u a,cU n,N u f,cU p] (N u<|eW H f<|pk (fx a) n):=by
 refine aD Tryz.func69 ?_
 have X:=H.hp.1
 have R:=H.le
 have B:aY p [1]:=⟨pI S S,by show can _;exact .inr H4⟩
 let ⟨q1,s,w⟩:=wM H B g c
 let ⟨y,A,D⟩:=wM H Q g c
 have l:=tr p H.hp H.le [1] f ax S B g c
 have v:=tr p H.hp H.le a f S S Q g c
 refine e J<|t<|rl u [1] J J (rc J J l<|o J<|aO J J v J<|L<|e J ?_)
 refine q<|aK (α:=V Z×V Z×I) (λx=>⟨[(2,N u f),(3,cU p),(9,N u x.1),(10,N u x.2.1),(11,cU x.2.2)],[],5,[]⟩) (λx=>aY p x.1/\aY p x.2.1/\G x.1<G f/\G x.2.1<G f/\x.2.2<18446744073709551616/\(fx f:Fx p)∣fx x.1*pk (fx x.2.1) x.2.2-pk (fx a) n) (λx=>x.2.2) ((aJ [1] f p).2,(aJ a f p).2,n) ⟨q1,y,s,A,W,?_⟩ aM ?_
 .have:=pJ w<|uS D n;rwa[uT,one_mul]at this
 rintro⟨r,b,m⟩ ⟨l,v,F,lb,hm,hc⟩
 simp only at l v F lb hm hc
 have d:=Eh H (a:=b) (b:=b) g c
 have M:=qI b b p
 have C:=uP b b p S S S S v.1 v.1
 have E:=tr p H.hp H.le (bT b b p) f S S (je H.pos b b) g c
 refine L<|e J<|z J (λh=>?_)<|λh=>?_
 .have h:0<m:=by have h:(m:Z)>0:=az h;omega
  refine ai<|L<|q<|L<|e J (hp:=ak)<|z J (λh2=>?_)<|λh2=>?_
  .have h2:(m:Z).tmod 2=1:=eq_of_beq h2;have O:m%2=1:=Mp;obtain⟨k,rfl⟩:∃k,m=2*k+1:=⟨m/2,S⟩;have i:=Eh H (a:=r) (b:=b) g c;have Y:=qI r b p;have K:=uP r b p S S S S l.1 v.1;have P:=tr p H.hp H.le (bT r b p) f S S (je H.pos r b) g c;refine bs<|rc J J K<|rc J J P<|o J<|ay ?_;refine bs (rc J J C<|rc J J E<|o J<|aT<|rt J (hp:=ak)<|aA (mA p f r b,mA p f b b,k) ⟨i.1,d.1,i.2.1,d.2.1,by show k<_;omega,?_⟩ (S:k<2*k+1)<|wk ⟨sR J,sR J,sR J,sR J,sE J ?_,T⟩ T)
   .show fx f∣fx (mA p f r b)*pk (fx<|mA p f b b) k-pk (fx a) n;refine lR (pJ i.2.2<|uS d.2.2 k) ?_;rw[qK,mul_assoc,<-rU];have bZ:fx b*pk (fx b) (k+k)=(pk (fx b) (2*k+1):Fx p):=by rw[mul_comm,(S:k+k=2*k)];rfl
    rw[bZ];exact hc
   .exact bA<|(rO (2*k+1) hm).trans (S:((((2*k+1)/2:I)):Z)=(k:Z))
  .have h2:(m:Z).tmod 2≠1:=fT h2;have Hw:m%2=0:=Mp;obtain⟨k,rfl⟩:∃k,m=2*k:=⟨m/2,S⟩;refine ai ?_;refine bs (rc J J C<|rc J J E<|o J<|aT<|rt J (hp:=ak)<|aA (r,mA p f b b,k) ⟨l,d.1,F,d.2.1,by show k<_;omega,?_⟩ (S:k<2*k)<|wk ⟨sR J,sR J,sR J,sR J,sE J ?_,T⟩ T)
   .show fx f∣fx r*pk (fx<|mA p f b b) k-pk (fx a) n;refine lR (pJ (nT _<|fx r)<|uS d.2.2 k) ?_;rw[qK,<-rU,(S:k+k=2*k)];exact hc
   .exact bA<|(rO (2*k) hm).trans (S:((((2*k)/2:I)):Z)=(k:Z))
 .have h:m=0:=by have h:¬(m:Z)>0:=aL h;omega
  subst h;rw[pk,mul_one]at hc;rw[ZR H g c l F hc];exact aN<|ay<|e J<|bU J
def yr(a b:V Z):V Z:=(be<|max (G a)<|G b).map λi=>Y a i 0+Y b i 0
def ae6 a b:G (yr a b)=max (G a) (G b):=by simp[yr]
def arT a b p(F:G a<=1000)(H:G b<=1000)(l:0<p)(P:p<=2147483648)(r:rp p a)(v:rp p b):af j 272 [N u a,N u b,cU p] (N u<|au<|md p<|yr a b):=by
 refine aD Tryz.func272 ?_;generalize hM:max (G a) (G b)=M;have x:=ae6 a b;have d:∀i,i<M->Y (yr a b) i 0=Y a i 0+Y b i 0:=λi B=>by unfold yr;rw[aF,gj,jW S];rfl
 have m:∀i,0<=Y (yr a b) i 0:=λi=>by
  by_cases h:i<M
  .rw[d i h];have C:=r i;have h2:=v i;omega
  .rw[cF _ S];exact gk _
 rw[hM]at x;generalize yr a b=f at*;refine e J<|t<|gR u [] J J (o J<|L<|e J ?_);refine q<|aK (α:=I) (λi=>⟨[(0,N u a),(1,N u b),(2,cU p),(7,.c<|.X 1000000),(8,D i)],[(1000000,.vec 25 u<|y i f)],3,[]⟩) (λi=>i<=M) (λi=>M-i) 0 (aW _) aM ?_;intro i B;have K:(y i f).length=i:=bP;by_cases g:i<M
 .refine oq ⟨[(0,N u a),(1,N u b),(2,cU p),(7,.c<|.X 1000000),(8,D i)],[(1000000,.vec 25 u<|y i f)],4,[]⟩ ?_ (λk=>t<|rg 14 J J (λh=>o J<|z J (λ_=>bN<|fH k aM)<|λh2=>nl)<|λh=>o J<|z J (λ_=>bN<|fH k aM)<|λh2=>?_)
  .have C:=r i;have h2:=v i;refine L<|q<|bs ?_;refine rc J J (Hl a i)<|rc J J (Hl b i) ?_;refine rl u [_] J J (ra J J J J J J J J J ?_ ?_<|o J ?_)
   .show(_+1+(_+1)/4+192)*8<=_;omega
   .show(_+1)*1<=_;omega
   refine aT<|rt J<|aA (i+1) g xu<|Wk.trans (wk (st':=⟨[(0,N u a),(1,N u b),(2,cU p),(7,.c<|.X 4009000),(8,D ((i+1:I):Z))],[(4009000,.vec 25 u<|y (i+1) f)],8,[]⟩) (aS J) ⟨bE J ?_,T⟩)<|Wk.trans (fp 1000000 4009000 J J J) aM;refine aC (aH.vec 25 u) ?_;rw[jK _ i S,d i g,wrap_u64 _ S S]
  .exfalso;have h:¬(i:Z)<(G a:Z):=aL h;have h2:¬(i:Z)<(G b:Z):=aL h2;omega
 .have n:i=M:=by omega
  subst n;have E:=uO f p S l S m;rw[iI S];refine L<|t<|rg 14 J J (λh=>?_)<|λh=>?_
  .exfalso;have h:(i:Z)<(G a:Z):=az h;omega
  .refine o J (z J (λh2=>?_)<|λh2=>?_)
   .exfalso;have h2:(i:Z)<(G b:Z):=az h2;omega
   .exact aN<|ay<|cD 1000000 J J J<|aO J J E J<|bU J
def ae7 f(p:I)(B:G f<=1000)(a:0<p)(E:p<=2147483648)(m:rp p f):af j 144 [N u f,cU p] (N u<|au<|dG p f):=by
 refine aD Tryz.func144 ?_;have C:=zI p f;have d:=λi(g:i<G f-1)=>MM p f g
 have k:=uO (dG p f) p S S S<|λi=>(zJ a f i).1;rw[Bo (zJ a f)]at k;generalize dG p f=b at*;refine e J<|t<|gR u [] J J (o J<|L<|e J ?_);refine q<|aK (α:=I) (λi=>⟨[(0,N u f),(1,cU p),(5,.c<|.X 1000000),(6,D ((i+1:I):Z))],[(1000000,.vec 25 u<|y i b)],3,[]⟩) (λi=>i<=G f-1) (λi=>G f-i) 0 (aW _) aM ?_;intro i g;have F:(y i b).length=i:=bP;refine L<|e J<|z J (λh=>?_)<|λh=>?_
 .have h:i+1<G f:=by have h:((i+1:I):Z)<(G f:Z):=az h;omega
  have n:ad (((i+1:I):Z))=i+1:=aV _;have r:=m<|i+1;refine ai<|L<|q<|bs ?_;refine rl u [_] J J (ra J J J J J J J J J ?_ ?_<|o J ?_) (hp:=ak)
  .show(_+1+(_+1)/4+192)*8<=_;omega
  .show(_+1)*1<=_;omega
  refine aT<|rt J<|aA (i+1) S (S:G f-(i+1)<G f-i)<|Wk.trans (wk (st':=⟨[(0,N u f),(1,cU p),(5,.c<|.X 4013000),(6,D ((i+1+1:I):Z))],[(4013000,.vec 25 u<|y (i+1) b)],8,[]⟩) (aS J) ⟨bE J ?_,T⟩)<|Wk.trans (fp 1000000 4013000 J J J) aM;refine aC (aH.vec 25 u) ?_;have v:(ao .u64 ((i+1:I):Z)).tmod p=(((i+1)%p:I):Z):=by rw[wrap_u64 _ S S,gU]
  have H:(((i+1)%p:I):Z)<p:=by have:=fg (i+1) a;omega
  have l:0<=Y f (i+1) 0*(((i+1)%p:I):Z):=jm r.1 S;have K:Y f (i+1) 0*(((i+1)%p:I):Z)<=2147483648*2147483648:=wQ S S S S;have x:(ao .u64<|Y f (ad ((i+1:I):Z)) y6.cJ*(ao .u64 ((i+1:I):Z)).tmod p).tmod p=Y b i 0:=by rw[v,n,d i S];show(ao .u64<|Y f (i+1) 0*(((i+1)%p:I):Z)).tmod p=_;rw[wrap_u64 _ l S,oh l,ew]
  rw[x,jK _ i S]
 .have h:¬((i+1:I):Z)<(G f:Z):=aL h;rw[iI S];exact aN<|ay<|cD 1000000 J J J<|aO J J k J<|bU J
def lE(p:I):I->I->V Z
 |0,_=>[]
 |a+1,n=>if n=0 then[]else((n%p:I):Z)::lE p a (n/p)
def O2 p a:lE p a 0=[]:=by cases a<;>rfl
def VH{p:I}(f:2<=p):∀a n,n<2^a->aY p (lE p a n)/\G (lE p a n)<=a
 |0,n,_=>⟨nS S,a8 _⟩
 |a+1,n,g=>by
  rw[lE];split
  .exact⟨nS S,aW _⟩
  .rename_i k;have b:n/p<2^a:=by have d:n/p<=n/2:=arU f A;rw[fy]at g;omega
   let ⟨⟨i1,i2⟩,i3⟩:=VH f a (n/p) b;refine⟨⟨λi=>?_,?_⟩,bP⟩
   .cases i with
    |zero=>
     have:=fg n (S:0<p)
     show 0<=((n%p:I):Z)/\((n%p:I):Z)<p
     omega
    |succ i=>exact i1 i
   .right;by_cases d:n/p=0
    .rw[d,O2];have:n<p:=by rwa[Nat.div_eq_zero_iff_lt S]at d
     show((n%p:I):Z)≠0;rw[nK this];omega
    .rcases i2 with i2|i2
     .exfalso;have:lE p a (n/p)≠[]:=by
       cases a with
       |zero=>exact absurd b (by rw[oo];have:=oj d;omega)
       |succ a=>rw[lE,M d];simp
      exact this i2
     .rw[fu,eJ];generalize lE p a (n/p)=l at*;cases l with
      |nil=>exact absurd J i2
      |cons c l=>exact i2
def mK(p:I):V Z->I
 |[]=>0
 |c::l=>ad c+p*mK p l
def ae8{p:I}(m:0<p):∀(b:I)(a:V Z),G a<=b->aY p a->lE p b (mK p a)=a
 |b,[],_,_=>O2 p b
 |0,c::a,g,_=>by simp at g
 |b+1,c::a,g,f=>by
  have v:0<=c/\c<p:=f.1 0;have n:aY p a/\(a=[]->c≠0):=by
   refine⟨⟨λi=>f.1<|i+1,?_⟩,λe=>?_⟩
   .rcases f.2 with e|e
    .cases e
    .cases a with
     |nil=>exact .inl J
     |cons d a=>exact .inr e
   .subst e;rcases f.2 with e|e
    .cases e
    .exact e
  have k:=ae8 m b a (by simp at g;omega) n.1;have r:mK p (c::a)%p=ad c:=by rw[mK,Nat.add_mul_mod_self_left,nK S]
  have l:mK p (c::a)/p=mK p a:=by rw[mK,Nat.add_mul_div_left _ _ m,A6 S,dU]
  have x:mK p (c::a)≠0:=λe=>by rw[e,Nat.zero_div]at l;rw[e,Nat.zero_mod]at r;rw[<-l,O2]at k;exact n.2 k.symm S
  rw[lE,M x,r,l,k,Bc v.1]
def ae9{p:I}:∀a:V Z,(∀i,0<=Y a i 0/\Y a i 0<(p:Z))->mK p a<p^G a
 |[],_=>by simp[mK]
 |c::a,b=>by
  have g:0<=c/\c<p:=b 0;have d:=ae9 a λi=>b<|i+1
  have f:=jw p (show mK p a+1<=p^G a from d);rw[mK,fu,fy,fR<|p^_];rw[xQ]at f;omega
def ae'{p:I}(c:Z):∀a:V Z,mK p (a++[c])=mK p a+p^G a*ad c
 |[]=>by simp[mK]
 |d::a=>by rw[kU,mK,ae' c a,mK,fu,fy,xQ];have:p*(p^G a*ad c)=p^G a*p*ad c:=eT;omega
def arV{p}{a}(b:Mon p a):p^(G a-1)<=mK p a/\mK p a<2*p^(G a-1):=by
 obtain⟨d,rfl⟩:∃d,a=d++[1]:=⟨a.dropLast,by
  have e:=Vy b.ne;have f:a.getLast b.ne=1:=by have:=b.one;have g:=b.pos;rw[aF,bD S]at this;rw[arI];exact this
  rw[f]at e;exact e.symm⟩
 have k:=ae9 (p:=p) d λi=>by
  by_cases h:i<G d
  .have:=b.c.1 i;rwa[aF,yN h,<-aF]at this
  .rw[cF _ S];have:=b.c.1 0;omega
 rw[ae',fO,wK,eJ];have:ad (1:Z)=1:=rfl;rw[this,kI];omega
def arW(p n:I)(f:2<=p)(g:p<=2147483648)(r:n<18446744073709551616):af j 230 [cU n,cU p] (N u<|lE p 64 n):=by
 refine aD Tryz.func230 ?_;refine e J<|t<|gR u [] J J (o J<|L<|e J ?_);refine q<|aK (α:=V Z×I) (λx=>⟨[(1,cU p),(5,.c<|.X 1000000),(6,cU x.2)],[(1000000,.vec 25 u x.1)],3,[]⟩) (λx=>G x.1<=64/\x.2<2^(64-G x.1)/\lE p 64 n=x.1++lE p (64-G x.1) x.2) (λx=>x.2) ([],n) ⟨aW _,r,J⟩ aM ?_;rintro⟨a,m⟩ ⟨v,h2,b⟩;simp only at v h2 b;have C:m<18446744073709551616:=jD h2<|fG (n:=2) A (S:64-G a<=64);refine L<|e J<|z J (λh=>?_)<|λh=>?_
 .have h:0<m:=by have h:(m:Z)>0:=az h;omega
  have E:G a<64:=by
   rcases oG (G a) 64 with i|i
   .exact i
   .rw[(S:64-G a=0)]at h2;omega
  obtain⟨k,l⟩:∃k,64-G a=k+1:=⟨63-G a,S⟩;have d:m/p<m:=Nat.div_lt_self h f;refine ai<|L<|q<|bs ?_;refine rl u [_] J J (ra J J J J J J J J J ?_ ?_<|o J ?_) (hp:=ak)
  .show(G a+1+(G a+1)/4+192)*8<=_;omega
  .show(G a+1)*1<=_;omega
  refine aT<|rt J (aA (a++[((m%p:I):Z)],m/p) ⟨bP,?_,?_⟩ d<|Wk.trans (wk (st':=⟨[(1,cU p),(5,.c<|.X 4005000),(6,cU ((m/p:I):Z))],[(4005000,.vec 25 u<|a++[((m%p:I):Z)])],8,[]⟩) ⟨sR J,sR J,sE J ?_,T⟩ ⟨bE J ?_,T⟩)<|Wk.trans (fp 1000000 4005000 J J J) aM) (hp:=ak)
  .simp only[fO,wK];rw[l,fy]at h2;rw[(S:64-(G a+1)=k)];have F:m/p<=m/2:=arU f A;omega
  .simp only[fO,wK];rw[b,l,lE,M S,(S:64-(G a+1)=k),jR];rfl
  .refine bA (show ao .u64 ((m:Z).tdiv p)=((m/p:I):Z)from ?_);have B:(0:Z)<=((m/p:I):Z):=nM _;rw[<-Int.ofNat_tdiv,wrap_u64 _ B S]
  .show aH.vec 25 u (a++[(m:Z).tmod p])=_;rw[gU]
 .have h:m=0:=by have h:¬(m:Z)>0:=aL h;omega
  subst h;rw[O2,iW]at b;rw[b];exact aN<|ay<|cD 1000000 J J J<|e J<|bU J
section
variable{p:I}(H:aX p)
noncomputable def qf(f:V Z):I->V Z×V Z->V Z×V Z
 |0,x=>x
 |k+1,x=>let a:=qf f k x;let w:=eW H f<|pk (fx a.2) 2;(au<|md p<|yr a.1 w,w)
noncomputable def kS(f:V Z):I->V Z×V Z->V Z×V Z
 |0,x=>x
 |k+1,x=>let a:=kS f k x;let w:=eW H f<|pk (fx a.2) p;(mA p f a.1 w,w)
noncomputable def Ae(a f:V Z)(d:I):V Z:=
 let r:=(aJ a f p).2
 if p=2 then(qf H f (d-1) (r,r)).1 else au (hZ (eW H f<|pk (fx (kS H f (d-1) (r,r)).1)<|(p-1)/2) [1] p)
variable{f:V Z}(hf:aY p f)(jM:f≠[])
include hf jM
def VI{x:V Z×V Z}(a:aY p x.1)(b:aY p x.2)(c:G x.1<G f)(d:G x.2<G f):∀k,aY p (qf H f k x).1/\aY p (qf H f k x).2/\(qf H f k x).1.length<G f/\(qf H f k x).2.length<G f
 |0=>⟨a,b,c,d⟩
 |k+1=>by let ⟨i1,i2,i3,i4⟩:=VI a b c d k;let ⟨m1,g,_⟩:=pO H hf jM<|pk (fx (qf H f k x).2) 2;have i:=kK<|md p<|yr (qf H f k x).1<|eW H f<|pk (fx (qf H f k x).2) 2;rw[oU,ae6]at i;exact⟨gH H.pos<|pH H.pos _,m1,by show G (au _)<_;omega,g⟩
def arX{x:V Z×V Z}(c:aY p x.1)(d:aY p x.2)(g:G x.1<G f)(i:G x.2<G f):∀k,aY p (kS H f k x).1/\aY p (kS H f k x).2/\(kS H f k x).1.length<G f/\(kS H f k x).2.length<G f
 |0=>⟨c,d,g,i⟩
 |k+1=>by let ⟨m1,l,_⟩:=pO H hf jM<|pk (fx (kS H f k x).2) p;let ⟨m,n,_⟩:=Eh H (a:=(kS H f k x).1) (b:=eW H f<|pk (fx (kS H f k x).2) p) hf jM;exact⟨m,m1,n,l⟩
def afa{a:V Z}(g:aY p a)(d:I):aY p (Ae H a f d)/\G (Ae H a f d)<=G f:=by
 let ⟨r1,b,_⟩:=wM H g hf jM;unfold Ae;split
 .let ⟨i1,_,i3,_⟩:=VI H hf jM (x:=((aJ a f p).2,(aJ a f p).2)) r1 r1 b b<|d-1;exact⟨i1,Cy i3⟩
 .have c:=kK<|hZ (eW H f<|pk (fx (kS H f (d-1) ((aJ a f p).2,(aJ a f p).2)).1)<|(p-1)/2) [1] p;have i:=(pO H hf jM<|pk (fx (kS H f (d-1) ((aJ a f p).2,(aJ a f p).2)).1)<|(p-1)/2).2.1;rw[LR,wK]at c;exact⟨gH H.pos<|Bp H.pos _ _,cQ c S⟩
def arY{b:V Z}(F:aY p b)(lt:G b<=200)(m:G f<=200)(d:I)(d1:1<=d)(d2:d<=1000):af j 231 [N u b,D d,N u f,cU p] (N u<|Ae H b f d):=by
 refine aD Tryz.func231 ?_;have R:=H.hp.1;have K:=H.le;have U:=bX.2 jM;let ⟨r1,l,_⟩:=wM H F hf jM;have P:=tr p H.hp H.le b f S S F hf jM;obtain⟨k,rfl⟩:∃k,d=k+1:=⟨d-1,S⟩;unfold Ae;rw[eJ];have W:=λk=>VI H hf jM (x:=((aJ b f p).2,(aJ b f p).2)) r1 r1 l l k
 have X:=λk=>arX H hf jM (x:=((aJ b f p).2,(aJ b f p).2)) r1 r1 l l k
 generalize (aJ b f p).2=r at*;refine e J<|L<|e J<|z J (λh=>?_)<|λh=>ai ?_
 .have h:(p:Z)=2:=eq_of_beq h;rw[s S];refine aO J J P J<|e J<|L<|e J ?_;refine q<|aK (α:=I) (λi=>⟨[(1,D ((k+1:I):Z)),(2,N u f),(3,cU p),(9,N u (qf H f i (r,r)).1),(10,N u (qf H f i (r,r)).2),(11,D ((i+1:I):Z))],[],6,[]⟩) (λi=>i<=k) (λi=>k-i) 0 (aW _) aM ?_;intro i w;let ⟨c,g,y,O⟩:=W i;refine L (e J<|z J (λh=>?_)<|λh=>?_)
  .have h:((i+1:I):Z)<((k+1:I):Z):=az h;have a:=O1 H f (qf H f i (r,r)).2 2 m hf jM g S A;let ⟨m1,Q,_⟩:=pO H hf jM<|pk (fx (qf H f i (r,r)).2) 2;have n:=arT (qf H f i (r,r)).1 (eW H f<|pk (fx (qf H f i (r,r)).2) 2) p S S H.pos S c.1 m1.1;refine ai<|L<|q<|aO J J a J<|bs<|rc J J n<|o J<|aT<|rt J (hp:=ak)<|aA (i+1) S Nk aM
  .have h:¬((i+1:I):Z)<((k+1:I):Z):=aL h;have v:i=k:=S;subst v;exact aN<|ay<|e J<|bc<|bt<|atR J
 .have h:(p:Z)≠2:=fT h;rw[M S];refine aO J J P J<|e J<|L<|e J ?_;refine q<|aK (α:=I) (λi=>⟨[(1,D ((k+1:I):Z)),(2,N u f),(3,cU p),(12,N u (kS H f i (r,r)).1),(13,N u (kS H f i (r,r)).2),(14,D ((i+1:I):Z))],[],6,[]⟩) (λi=>i<=k) (λi=>k-i) 0 (aW _) aM ?_;intro i w;let ⟨c,g,y,O⟩:=X i;refine L (e J<|z J (λh=>?_)<|λh=>?_)
  .have h:((i+1:I):Z)<((k+1:I):Z):=az h;have a:=O1 H f (kS H f i (r,r)).2 p m hf jM g S S;let ⟨m1,Q,_⟩:=pO H hf jM<|pk (fx (kS H f i (r,r)).2) p;have B:=uP (kS H f i (r,r)).1 (eW H f<|pk (fx (kS H f i (r,r)).2) p) p S S S S c.1 m1.1;have T:=qI (kS H f i (r,r)).1 (eW H f<|pk (fx (kS H f i (r,r)).2) p) p;have C:=tr p H.hp H.le (bT (kS H f i (r,r)).1 (eW H f<|pk (fx (kS H f i (r,r)).2) p) p) f S S (je H.pos _ _) hf jM;refine ai<|L<|q<|aO J J a J<|bs<|rc J J B<|rc J J C<|o J<|aT<|rt J (hp:=ak)<|aA (i+1) S Nk aM
  .have h:¬((i+1:I):Z)<((k+1:I):Z):=aL h;have v:i=k:=S;subst v;have g:ao .u64 ((ao .u64<|(p:Z)-1).tdiv 2)=(((p-1)/2:I):Z):=by have c:ao .u64 ((p:Z)-1)=(p:Z)-1:=wrap_u64 _ S S;rw[c,(S:(p:Z)-1=((p-1:I):Z))];exact rO (p-1) S
   have a:af j 69 [N u (kS H f i (r,r)).1,cU<|ao .u64<|(ao .u64<|(p:Z)-1).tdiv 2,N u f,cU p] (N u<|eW H f<|pk (fx (kS H f i (r,r)).1)<|(p-1)/2):=by rw[g];exact O1 H f _ _ m hf jM c S S
   let ⟨m1,Q,_⟩:=pO H hf jM<|pk (fx (kS H f i (r,r)).1)<|(p-1)/2;have E:=Hm (eW H f<|pk (fx (kS H f i (r,r)).1)<|(p-1)/2) [1] p S ax S S m1.1 (pI S S);refine aN<|ay ?_;exact t<|rc J J a<|rl u [1] J J (rc J J E<|o J<|bU J)
end
section
variable{p:I}(H:aX p)
noncomputable def gE(f:V Z)(d n:I):V Z:=
 let g:=c8 p f (aJ (lE p 64 n) f p).2
 if G g=1\/G g=G f then c8 p f (Ae H (lE p 64 n) f d)else g
variable{f:V Z}{d:I}
def afb(a:Mon p f){n:I}(b:n<18446744073709551616):Mon p (gE H f d n)/\(fx (gE H f d n):Fx p)∣fx f:=by
 let ⟨t1,t2⟩:=VH H.hp.1 64 n b;let ⟨r1,l,_⟩:=wM H t1 a.c a.ne;let ⟨m1,g,_⟩:=qQ H a.c r1 a.ne;let ⟨i,k,_⟩:=qQ H a.c (afa H a.c a.ne t1 d).1 a.ne;unfold gE;dsimp only;split
 .exact⟨i,k⟩
 .exact⟨m1,g⟩
def arZ(a:sx p f d)(m:1<=d)(Q:2*p^d<=18446744073709551616)(R:d+1<G f):∃n,(p<=n/\n<18446744073709551616/\1<G (gE H f d n)/\G (gE H f d n)<G f)/\∀k,k<n->¬(p<=k/\k<18446744073709551616/\1<G (gE H f d k)/\G (gE H f d k)<G f):=by
 refine Vx ?_;let ⟨q,q1,W,r,v⟩:=a.ex H S;let ⟨v1,v2⟩:=arV q1;rw[v,eJ]at v1 v2;have b:=H.hp.1;have x:p<=p^d:=by have:=fG (S:0<p) m;rwa[Nat.pow_one]at this
 have l:d<64:=by
  have X:2^d<=p^d:=v5 b d;rcases oG d 64 with e|e
  .exact e
  .have j:2^64<=2^d:=fG A e;omega
 have g:=ae8 (p:=p) S 64 q S q1.c;have i:(aJ q f p).2=q:=by unfold aJ;rw[s S]
 let ⟨m1,o,B,U,V,C⟩:=qQ H a.aG.c q1.c a.aG.ne;have E:G (c8 p f q)=d+1:=by
  have F:(fx q:Fx p)∣fx (c8 p f q):=by rw[C];exact dvd_add (dz r U)<|dvd_mul_left _ _
  have K:=fV H F<|m1.gI H;have P:=fV H B<|q1.gI H;rw[bO m1.c,bO q1.c]at K P;omega
 have e:gE H f d (mK p q)=c8 p f q:=by unfold gE;rw[g,i,M S]
 exact⟨mK p q,S,S,by rw[e];omega,by rw[e];omega⟩
include H in
def VJ(E:1<=d)(d2:d<=1000)(hd:2*p^d<=18446744073709551616):∀(lX:I)(f:V Z),G f<lX->G f<=200->sx p f d->2<=G f->∃l,pQ p f l/\G l+1<=G f/\lK j 155 [N u f,D d,cU p] 22 (.sl u) l
 |0,_,h,_,_,_=>by omega
 |lX+1,f,hN,lf,h,h2=>by
  have F:=H.hp.1;have C:=H.le;by_cases X:G f<=d+1
  .refine⟨[f],⟨λg w=>?_,by rw[eD,eD,mul_one]⟩,bP,?_⟩
   .have m:=iu.1 w;subst m;exact⟨h.aG,h2,h.fq H h2 X E⟩
   .refine vT Tryz.func155 J J J J A ?_;refine e J (L<|e J<|z J (λh=>?_)<|λh=>?_)
    .exact t<|gR (.sl u) [f] J J (o J<|bc<|bt<|uD (id:=2001000) a6 J J)
    .exfalso;have h:¬(G f:Z)-1<=(d:Z):=aL h;omega
  .let ⟨n0,⟨n1,n2,n3,n4⟩,K⟩:=arZ H h E hd S;let ⟨Y,g2⟩:=afb H (d:=d) h.aG n2;let ⟨a1,a2⟩:=h.parts H Y g2;let ⟨q1,q2,q3,q4⟩:=tX H h.aG Y g2;let ⟨l1,o1,m1,k1⟩:=VJ E d2 hd lX _ S S a1 S;let ⟨l2,o2,m2,k2⟩:=VJ E d2 hd lX _ S S a2 S;refine⟨l1++l2,o1.app o2 q2,by rw[fO];omega,?_⟩;refine vT Tryz.func155 J J J J A ?_;refine e J (L<|e J<|z J (λy=>?_)<|λy=>ai ?_)
   .exfalso;have y:(G f:Z)-1<=(d:Z):=az y;omega
   refine e J<|q<|aK (α:=I) (λn=>⟨[(0,N u f),(1,D d),(2,cU p),(7,cU n)],[],4,[]⟩) (λn=>p<=n/\n<=n0) (λn=>n0-n) p ⟨a8 _,n1⟩ aM ?_;rintro n ⟨b1,b2⟩;let ⟨t1,t2⟩:=VH F 64 n (by omega:n<18446744073709551616);let ⟨r1,r2,_⟩:=wM H t1 h.aG.c h.aG.ne;have P:=arW p n F C S;have Q:=tr p H.hp H.le (lE p 64 n) f S S t1 h.aG.c h.aG.ne;have R:=Bt p H.hp H.le f (aJ (lE p 64 n) f p).2 S S h.aG.c r1;let ⟨s1,s2⟩:=afa H h.aG.c h.aG.ne t1 d;have i:=arY H h.aG.c h.aG.ne t1 S lf d E d2;have b:=Bt p H.hp H.le f (Ae H (lE p 64 n) f d) S S h.aG.c s1;have x:gE H f d n=if G (c8 p f (aJ (lE p 64 n) f p).2)=1\/G (c8 p f (aJ (lE p 64 n) f p).2)=G f then c8 p f (Ae H (lE p 64 n) f d)else c8 p f (aJ (lE p 64 n) f p).2:=rfl
   generalize c8 p f (aJ (lE p 64 n) f p).2=g at*;refine L<|q<|aO J J P J<|t<|rc J J Q<|rc J J R<|o J ?_;refine oq ⟨[(0,N u f),(1,D d),(2,cU p),(7,cU n),(9,N u<|gE H f d n)],[],9,[]⟩ ?_<|λr=>t<|rg 33 J J (λU=>?_)<|λU=>?_
   .let ⟨c1,c2⟩:=afb H (d:=d) h.aG (S:n<18446744073709551616);have cl:=(tX H h.aG c1 c2).2.2.2;have next:¬(1<G (gE H f d n)/\G (gE H f d n)<G f)->n+1<=n0:=λv=>by
     rcases oG n n0 with m|m
     .exact m
     .have O:n=n0:=by omega
      rw[O]at v;exact absurd ⟨n3,n4⟩ v
    have yes:1<G (gE H f d n)/\G (gE H f d n)<G f->n=n0:=λv=>by
     rcases oG n n0 with m|m
     .exact absurd ⟨b1,S,v.1,v.2⟩<|K n m
     .omega
    generalize w:gE H f d n=B at*;refine t<|rg 51 J J (λa=>o J<|z J (λk=>?_)<|λk=>bN<|aT ?_)<|λa=>o J<|z J (λk=>by cases k)<|λk=>bN<|aT ?_
    .have a:(G B:Z)>1:=az a;have k:(G B:Z)<(G f:Z):=az k;have O:=yes ⟨S,S⟩;subst O;rw[w]at k1 k2;have W:=zu p H.hp H.le f B S S h.aG.c c1.c c1.ne;rw[uQ (Ec H h.aG c1 cl).c.2]at W;refine t (uE J J k1<|rc J J W<|rc J J k2.fs<|ra J J J J J J J J J ?_ ?_<|o J<|bc<|eH<|bt<|gf<|eH<|uD (id:=10012000) a6 J J)
     .show(_+_+(_+_)/4+192)*24<=_;omega
     .show(_+_)*1<=_;omega
    .have a:(G B:Z)>1:=az a;have k:¬(G B:Z)<(G f:Z):=aL k;refine rt J (hp:=ak)<|aA (n+1) ⟨S,next λv=>S⟩ (S:n0-(n+1)<n0-n)<|wk ⟨sR J,sR J,sR J,sE J ?_,T⟩ T;exact bA<|wrap_u64 _ S S
    .have a:¬(G B:Z)>1:=aL a;refine rt J (hp:=ak)<|aA (n+1) ⟨S,next λv=>S⟩ (S:n0-(n+1)<n0-n)<|wk ⟨sR J,sR J,sR J,sE J ?_,T⟩ T;exact bA<|wrap_u64 _ S S
   .have U:(G g:Z)=1:=eq_of_beq U;rw[s S]at x;refine o J<|z J (λ_=>bs<|rc J J i<|rc J J b<|o J<|fH r<|wk ⟨sR J,sR J,sR J,sR J,sE J ?_,T⟩ T)<|λh=>bS;rw[x]
   .have U:(G g:Z)≠1:=fT U;refine o J (z J (λa=>?_)<|λa=>?_)
    .have a:(G g:Z)=(G f:Z):=eq_of_beq a;rw[s S]at x;refine bs<|rc J J i<|rc J J b<|o J<|fH r<|wk ⟨sR J,sR J,sR J,sR J,sE J ?_,T⟩ T;rw[x]
    .have a:(G g:Z)≠(G f:Z):=fT a;rw[M S]at x;refine bN<|fH r<|wk ⟨sR J,sR J,sR J,sR J,sE J ?_,T⟩ T;rw[x]
end
section
variable{p:I}(H:aX p)
open Classical in
noncomputable def qh(p:I)(f:V Z)(d:I):V (V Z):=if h:∃l,pQ p f l/\G l+1<=G f/\lK j 155 [N u f,D d,cU p] 22 (.sl u) l then Classical.choose h else[]
include H in
def afc{f:V Z}{d:I}(b:1<=d)(c:d<=1000)(g:2*p^d<=18446744073709551616)(i:G f<=200)(k:sx p f d)(l:2<=G f):pQ p f (qh p f d)/\G (qh p f d)+1<=G f/\lK j 155 [N u f,D d,cU p] 22 (.sl u) (qh p f d):=by have a:=VJ H b c g _ f (di _) i k l;unfold qh;rw[dif_pos a];exact qL a
structure nB where
 f:V Z
 h:V Z
 d:I
 o:V (V Z)
noncomputable def nB.w(x:nB):V Z:=eW H x.f<|pk (fx x.h) p
noncomputable def nB.g(x:nB):V Z:=c8 p x.f<|au<|hZ (x.w H) [0,1] p
noncomputable def nB.q(x:nB):V Z:=(aJ x.f (x.g H) p).1
noncomputable def nB.next(x:nB):nB:=
 if 1<(x.g H).length then⟨x.q H,if 1<G (x.q H)then(aJ (x.w H) (x.q H) p).2 else x.w H,x.d+1,x.o++qh p (x.g H) x.d⟩else⟨x.f,x.w H,x.d+1,x.o⟩
noncomputable def yt:I->nB->V (V Z)
 |0,x=>x.o
 |a+1,x=>if G x.f<=1 then x.o else if G x.f<=2*x.d then x.o++[x.f]else yt a (x.next H)
structure oF(p:I)(F:V Z)(x:nB):Prop where
 dg:Ch p x.f x.d
 d1:1<=x.d
 hc:aY p x.h
 hl:x.h.length<=200
 hx:(fx x.f:Fx p)∣fx x.h-pk X (p^(x.d-1))
 pt:∀g∈x.o,Mon p g/\2<=g.length/\bw (fx g:Fx p)
 pr:(fx F:Fx p)=eD p x.o*fx x.f
 fl:x.f.length<=F.length
 F2:F.length<=200
 Fm:Mon p F
def afd(H:aX p):aY p [0,1]:=⟨λi=>match i with
  |0=>⟨gk _,H.pos⟩
  |1=>by have:=H.hp.1;show 0<=(1:Z)/\(1:Z)<p;omega
  |i+2=>⟨gk _,H.pos⟩,.inr H4⟩
def afe:(fx [0,1]:Fx p)=X:=by rw[D5,l3,zero_add,uT,mul_one]
include H in
def oF.start{F:V Z}(b:Mon p F)(c:jz (fx F:Fx p))(a:G F<=200):oF p F ⟨F,[0,1],1,[]⟩ where
 dg:=⟨b,c,λQ d _=>d.1⟩
 d1:=a8 _
 hc:=afd H
 hl:=ax
 hx:=by rw[afe,gx,oo,rT];exact nT _ _
 pt:=λg f=>by cases f
 pr:=by rw[eD,one_mul]
 fl:=a8 _
 F2:=a
 Fm:=b
variable{F:V Z}{x:nB}
include H in
def oF.ol(a:oF p F x):G x.o+G x.f<=G F:=by
 let ⟨d,h2⟩:=H7 H (l:=x.o) λg b=>⟨(a.pt g b).1,(a.pt g b).2.1⟩
 have:=dE H d<|a.dg.aG.gI H;rw[<-a.pr,bO a.Fm.c,bO a.dg.aG.c]at this;omega
def oF.w(a:oF p F x):aY p (x.w H)/\(x.w H).length<G x.f/\(fx x.f:Fx p)∣fx (x.w H)-pk X (p^x.d):=by let ⟨m1,g,i⟩:=pO H a.dg.aG.c a.dg.aG.ne<|pk (fx x.h) p;refine⟨m1,g,lR i ?_⟩;have h:=uS a.hx p;obtain⟨k,b⟩:∃k,x.d=k+1:=⟨x.d-1,by have:=a.d1;omega⟩;rw[<-rV,b,eJ,<-fy]at h;rw[b];exact h
def oF.g(a:oF p F x):sx p (x.g H) x.d/\Ch p (x.q H) (x.d+1)/\(fx (x.g H):Fx p)∣fx x.f:=by let ⟨w1,c,b⟩:=a.w H;refine a.dg.step H a.d1 (gH H.pos<|Bp H.pos _ _) b ?_;rw[RS,afe]
def oF.next(a:oF p F x)(hl:¬G x.f<=2*x.d)(m:2*p^x.d<=18446744073709551616):oF p F (x.next H)/\(x.next H).d=x.d+1:=by
 obtain⟨i,s,C⟩:=a.w H;obtain⟨k,b,R⟩:=a.g H;have E:=a.F2;have t:=a.fl;obtain⟨q1,q2,U,u⟩:=tX H a.dg.aG k.aG R;have y:=k.aG.pos;unfold nB.next;split
 .rename_i K;obtain⟨P,z,A⟩:=afc H a.d1 S m S k K;have n:(fx F:Fx p)=eD p (x.o++qh p (x.g H) x.d)*fx (x.q H):=by rw[BG,P.prod,a.pr,q2,mul_assoc,mul_comm<|fx<|x.g H];rfl
  have r:∀g∈x.o++qh p (x.g H) x.d,Mon p g/\2<=G g/\bw (fx g:Fx p):=λg W=>(b8.1 W).elim (a.pt g)<|P.parts g
  have h:G (x.q H)+(x.g H).length=G x.f+1:=U;have l:(fx (x.q H):Fx p)∣fx (x.w H)-pk X (p^x.d):=dvd_trans HT C;refine⟨⟨b,O3<|aW _,?_,?_,?_,r,n,by show G (x.q H)<=_;omega,E,a.Fm⟩,J⟩
  .dsimp only;split
   .exact(wM H i b.aG.c b.aG.ne).1
   .exact i
  .dsimp only;split
   .have:=(wM H i b.aG.c b.aG.ne).2.1;omega
   .omega
  .dsimp only;rw[eJ];split
   .exact lR (wM H i b.aG.c b.aG.ne).2.2 l
   .exact l
 .rename_i K;have v:(x.g H).length=1:=S;have j:sz (fx (x.g H):Fx p)=1:=by rw[bO k.aG.c,v]
  refine⟨⟨⟨a.dg.aG,a.dg.jN,λQ B m=>b.low Q B ?_⟩,O3<|aW _,i,by show(x.w H).length<=_;omega,?_,a.pt,a.pr,a.fl,E,a.Fm⟩,J⟩
  .rw[show(fx x.f:Fx p)=fx (x.q H)*fx (x.g H)from q2]at m;rcases B.nq H m with e|e
   .exact e
   .have:=fV H e<|k.aG.gI H;have:=B.1;omega
  .show(fx x.f:Fx p)∣fx (x.w H)-pk X (p^(x.d+1-1));rw[eJ];exact C
def aff(n:∀d,2*d<G F->2*p^d<=18446744073709551616):∀(i:I)(x:nB),oF p F x->G x.f<x.d+i->pQ p F (yt H i x)
 |i,x,a,hN=>by
  have b:G x.f<=1->pQ p F x.o:=λk=>by
   refine⟨a.pt,?_⟩;have r:=a.dg.aG;have l:=r.one;have B:=r.pos;have C:(fx x.f:Fx p)=1:=by
    rw[<-uT];congr 1;generalize x.f=E at*;match E,k,B,l with
    |[c],_,_,l=>rw[show c=1 from l]
   rw[a.pr,C,mul_one]
  cases i with
  |zero=>
   refine b<|dQ λk=>?_
   let ⟨Q,q1,v⟩:=qO H _ (fx x.f:Fx p) (di _) (by rw[bO a.dg.aG.c];omega)
   have X:=a.dg.low Q q1 v
   have K:=fV H v<|a.dg.aG.gI H
   rw[bO a.dg.aG.c]at K
   omega
  |succ i=>
   rw[yt]
   split
   .rename_i k;exact b k
   .rename_i k;split
    .rename_i m;refine⟨λg P=>?_,?_⟩
     .rcases b8.1 P with e|e
      .exact a.pt g e
      .rw[iu.1 e];exact⟨a.dg.aG,S,a.dg.fq H S m⟩
     .rw[BG,a.pr];show _*(_*_)=_;rw[eD,mul_one]
    .rename_i m;have h:=a.fl;let ⟨R,j⟩:=a.next H m<|n _ S;refine aff n i _ R ?_;have s:(x.next H).f.length<=G x.f:=by
      unfold nB.next;split
      .let ⟨U,_,W⟩:=a.g H;have:G (x.q H)+(x.g H).length=G x.f+1:=(tX H a.dg.aG U.aG W).2.2.1;show G (x.q H)<=_;omega
      .exact a8 _
     omega
include H in
def oF.dlt(a:oF p F x)(i:1<G x.f):x.d<G x.f:=by let ⟨Q,q1,b⟩:=qO H _ (fx x.f:Fx p) (di _) (by rw[bO a.dg.aG.c];omega);have k:=a.dg.low Q q1 b;have g:=fV H b<|a.dg.aG.gI H;rw[bO a.dg.aG.c]at g;omega
def ar1(hF:Mon p F)(hs:jz (fx F:Fx p))(r:G F<=200)(Q:∀d,2*d<G F->2*p^d<=18446744073709551616):af j 85 [N u F,cU p] (N (.sl u)<|yt H (G F) ⟨F,[0,1],1,[]⟩):=by
 refine aD Tryz.func85 ?_;have r7:=H.hp.1;have BI:=H.le;have I0:=oF.start H hF hs r;generalize hR:yt H (G F) ⟨F,[0,1],1,[]⟩=R at*;refine e J<|t<|gR (.sl u) [] J J (o J<|t<|rl u [0,1] J J (o J<|e J<|L<|e J ?_));refine q<|aK (α:=I×nB) (λy=>⟨[(0,N u y.2.f),(1,cU p),(5,.c<|.X 1000000),(6,N u [0,1]),(7,N u y.2.h),(8,D y.2.d)],[(1000000,.vec 22 (.sl u) y.2.o)],5,[]⟩) (λy=>oF p F y.2/\G y.2.f<y.2.d+y.1/\yt H y.1 y.2=R) (λy=>y.1) (G F,⟨F,[0,1],1,[]⟩) ⟨I0,(S:G F<1+G F),hR⟩ aM ?_;rintro⟨U,x⟩ ⟨b,hN,a⟩;simp only at b hN a;have ol:=b.ol H;have d1:=b.d1;have fl:=b.fl;refine L<|e J<|z J (λh=>?_)<|λh=>?_
 .have h:1<G x.f:=by have h:(G x.f:Z)>1:=az h;omega
  have hdl:=b.dlt H h;obtain⟨k,rfl⟩:∃k,U=k+1:=⟨U-1,S⟩;rw[yt,M S]at a;refine ai<|L<|q<|L<|e J (hp:=ak)<|z J (λv=>?_)<|λv=>bN<|ay ?_
  .have v:2*(x.d:Z)>=(G x.f:Z):=az v;rw[s S]at a;refine t (rl (.sl u) [x.f] J J (ra J J J J J J J J J ?_ ?_<|o J<|cD 7003000 J J J<|bc ?_))
   .show(G x.o+1+(G x.o+1)/4+192)*24<=_;omega
   .show(G x.o+1)*1<=_;omega
   repeat(first|refine bt ?_|refine eH ?_|refine gf ?_)
   rw[<-a];exact c9 J J
  .have v:¬2*(x.d:Z)>=(G x.f:Z):=aL v;rw[M S]at a;have Q:=Q x.d S;let ⟨w1,w2,w3⟩:=b.w H;let ⟨W,g2,g3⟩:=b.g H;let ⟨l,n2⟩:=b.next H S Q;let ⟨q1,q2,q3,q4⟩:=tX H b.dg.aG W.aG g3;have i:(x.next H).f.length<(x.next H).d+k:=by
    rw[n2];have hq:(x.next H).f.length<=G x.f:=by
     unfold nB.next;split
     .have:G (x.q H)+(x.g H).length=G x.f+1:=q3;show G (x.q H)<=_;omega
     .exact a8 _
    omega
   have B:=O1 H x.f x.h p S b.dg.aG.c b.dg.aG.ne b.hc b.hl S;have A:=Hm (x.w H) [0,1] p S ax S S w1.1 (afd H).1;have C:=kK<|hZ (x.w H) [0,1] p;rw[LR]at C;have E:=Bt p H.hp H.le x.f (au<|hZ (x.w H) [0,1] p) S (by simp at C;omega) b.dg.aG.c<|gH H.pos<|Bp H.pos _ _;have m:=zu p H.hp H.le x.f (x.g H) S S b.dg.aG.c W.aG.c W.aG.ne;rw[uQ q1.c.2]at m;have O:eW H x.f (pk (fx x.h) p)=x.w H:=rfl;have V:c8 p x.f (au<|hZ (x.w H) [0,1] p)=x.g H:=rfl;have Y:(aJ x.f (x.g H) p).1=x.q H:=rfl;rw[O]at B;rw[V]at E;rw[Y]at m q3;refine aO J J B J<|t<|rc J J A<|rc J J E<|o J<|e J<|z J (λK=>?_)<|λK=>?_
   .have K:((x.g H).length:Z)>1:=az K;let ⟨e1,e2,e3⟩:=afc H d1 S Q S W S;have n:x.next H=⟨x.q H,if 1<G (x.q H)then(aJ (x.w H) (x.q H) p).2 else x.w H,x.d+1,x.o++qh p (x.g H) x.d⟩:=by unfold nB.next;rw[s S]
    rw[n]at a l i;refine t<|rc J J e3.fs<|ra J J J J J J J J J ?_ ?_<|o J<|aO J J m J<|e J<|z J (λP=>?_)<|λP=>?_
    .show(G x.o+G (qh p (x.g H) x.d)+(G x.o+G (qh p (x.g H) x.d))/4+192)*24<=_;omega
    .show(G x.o+G (qh p (x.g H) x.d))*1<=_;omega
    .have P:(G (x.q H):Z)>1:=az P;rw[s S]at a l i;have VK:=tr p H.hp H.le (x.w H) (x.q H) S S w1 g2.aG.c g2.aG.ne;refine bs<|rc J J VK<|o J<|dy<|ay<|rt J (hp:=ak)<|aA (k,⟨x.q H,(aJ (x.w H) (x.q H) p).2,x.d+1,x.o++qh p (x.g H) x.d⟩) ⟨l,i,a⟩ (di k)<|Wk.trans (wk (st':=⟨[(0,N u<|x.q H),(1,cU p),(5,.c<|.X 10005000),(6,N u [0,1]),(7,N u (aJ (x.w H) (x.q H) p).2),(8,D ((x.d+1:I):Z))],[(10005000,.vec 22 (.sl u)<|x.o++qh p (x.g H) x.d)],16,[]⟩) (aS J) ⟨bR J,T⟩)<|Wk.trans (fp 1000000 10005000 J J J) aM
    .have P:¬(G (x.q H):Z)>1:=aL P;rw[M S]at a l i;refine bN<|dy<|ay<|rt J (hp:=ak)<|aA (k,⟨x.q H,x.w H,x.d+1,x.o++qh p (x.g H) x.d⟩) ⟨l,i,a⟩ (di k)<|Wk.trans (wk (st':=⟨[(0,N u<|x.q H),(1,cU p),(5,.c<|.X 10005000),(6,N u [0,1]),(7,N u<|x.w H),(8,D ((x.d+1:I):Z))],[(10005000,.vec 22 (.sl u)<|x.o++qh p (x.g H) x.d)],16,[]⟩) (aS J) ⟨bR J,T⟩)<|Wk.trans (fp 1000000 10005000 J J J) aM
   .have K:¬((x.g H).length:Z)>1:=aL K;have n:x.next H=⟨x.f,x.w H,x.d+1,x.o⟩:=by unfold nB.next;rw[M S]
    rw[n]at a l i;exact bN<|aT<|rt J (hp:=ak)<|aA (k,⟨x.f,x.w H,x.d+1,x.o⟩) ⟨l,i,a⟩ (di k) aM
 .have h:¬(G x.f:Z)>1:=aL h;have a:x.o=R:=by
   cases U with
   |zero=>exact a
   |succ U=>rwa[yt,s S]at a
  refine aN<|ay<|cD 1000000 J J J<|e J<|bc ?_;rw[<-a];exact c9 J J
end
def ar2(a b:V Z)(i:G a<=1000)(l:G b<=1000):af Tryz.prog 15 [N u a,N u b] (cB<|decide<|ic a b<0):=by
 refine aD Tryz.func15 ?_;refine e J<|L<|e J<|z J (λh=>?_)<|λh=>ai ?_
 .have h:=nN h;refine e J<|bc<|bt<|c9 J<|aC cB ?_;rw[ic,s S,jg];refine decide_eq_decide.2 ⟨λf=>by rw[s f];decide,λf=>?_⟩;split at f
  .assumption
  .split at f<;>omega
 .have h:(G a:Z)=(G b:Z):=nO h;rw[show ic a b=oy a b (G a)by rw[ic,M S]];refine L<|e J ?_;refine q<|aK (α:=I) (λk=>⟨[(0,N u a),(1,N u b),(5,D<|(k:Z)-1)],[],4,[]⟩) (λk=>k<=G a/\oy a b (G a)=oy a b k) (λk=>k) (G a) ⟨a8 _,J⟩ aM ?_;rintro k ⟨m,hc⟩;refine L (e J<|z J (λc=>?_)<|λc=>?_)
  .have c:0<k:=by have c:(k:Z)-1>=0:=az c;omega
   obtain⟨j,rfl⟩:∃j,k=j+1:=⟨k-1,S⟩;have g:ad (((j+1:I):Z)-1)=j:=S;refine ai<|L<|q<|e J (hp:=ak)<|z J (λd=>?_)<|λd=>bN<|aT ?_
   .have d:Y a (ad<|((j+1:I):Z)-1) 0≠Y b (ad<|((j+1:I):Z)-1) 0:=nN d;rw[g]at d;refine e J (hp:=ak)<|bc ?_;repeat(first|refine bt ?_|refine eH ?_|refine gf ?_)
    refine c9 J ?_;show cB (decide<|List.getD a (ad<|((j+1:I):Z)-1) 0<Y b (ad<|((j+1:I):Z)-1) 0)=_;rw[g,hc,oy];refine aC cB<|decide_eq_decide.2 ?_;unfold jg;split
    .rw[s A];exact⟨λ_=>A,λ_=>by assumption⟩
    .rw[s (S:Y a j 0>Y b j 0),s A];exact⟨λf=>S,λf=>S⟩
   .have d:Y a (ad<|((j+1:I):Z)-1) 0=Y b (ad<|((j+1:I):Z)-1) 0:=nO d;rw[g]at d;refine rt J (hp:=ak) (aA j ⟨S,?_⟩ ni<|wk ⟨sR J,sR J,sE J ?_,T⟩ T)
    .rw[hc,oy,M];unfold jg;rw[M S,M S];decide
    .exact gh (S:((j+1:I):Z)-1-1=(j:Z)-1)
  .have c:k=0:=by have c:¬(k:Z)-1>=0:=aL c;omega
   subst c;rw[hc];exact aN<|ay<|e J<|bU J
section
variable{α:Type}(d:α)(lt:α->Bool)(x:α)(l:V α)
def j4:I->Bool×V α
 |0=>(ah,[])
 |i+1=>if(!(j4 i).1&&lt (Y l i d))=ae then(ae,(j4 i).2++[x]++[Y l i d])else((j4 i).1,(j4 i).2++[Y l i d])
def VL(i:I):j4 d lt x l (i+1)=if(!(j4 d lt x l i).1&&lt (Y l i d))=ae then(ae,(j4 d lt x l i).2++[x]++[Y l i d])else((j4 d lt x l i).1,(j4 d lt x l i).2++[Y l i d]):=rfl
def sA:V α:=if(j4 d lt x l<|G l).1=ae then(j4 d lt x l<|G l).2 else(j4 d lt x l<|G l).2++[x]
def VM:∀i,(j4 d lt x l i).2.length=i+(if(j4 d lt x l i).1=ae then 1 else 0)
 |0=>rfl
 |i+1=>by
  have:=VM i;rw[j4];cases h:(j4 d lt x l i).1
  .rw[h]at this;simp only[Gg,A4];split
   .simp at this⊢;omega
   .simp[h]at this⊢;omega
  .rw[h]at this;simp only[NK,O4,jQ,cC];simp[h]at this⊢;omega
def afg:∀i,i<=G l->(j4 d lt x l i).2.Perm (if(j4 d lt x l i).1=ae then x::y i l else y i l)
 |0,_=>by rw[j4];simp
 |i+1,c=>by
  have a:=afg i S;have b:y (i+1) l=y i l++[Y l i d]:=by rw[mM,aF,bD S];rfl
  rw[j4,b];cases h:(j4 d lt x l i).1
  .rw[h]at a;simp only[Gg,A4];simp only[jQ,cC]at a;split
   .simp only[cA];refine(List.Perm.append_right _<|a.append_right [x]).trans ?_;rw[jR];exact(List.perm_append_comm_assoc _ _ _)
   .simp only[h,jQ,cC];exact a.append_right _
  .rw[h]at a;simp only[NK,O4,jQ,cC];simp only[cA]at a;simp only[h,cA];exact a.append_right _
def afh:(sA d lt x l).Perm (x::l):=by
 have h:=afg d lt x l (G l)<|a8 _;unfold sA;rw[eE]at h;split
 .rename_i e;rwa[e]at h
 .rename_i e;rw[Bool.not_eq_true]at e;rw[e]at h;simp only[jQ,cC]at h;exact(h.append_right [x]).trans ar3
end
def ar4(l:V (V Z×Z))(x:V Z×Z)(hl:G l<=1000)(Q:G x.1<=1000)(R:∀m∈l,G m.1<=1000):af j 88 [N MT l,.a<|av MT x] (N MT<|sA ([],0) (λm=>decide<|ic x.1 m.1<0) x l):=by
 refine aD Tryz.func88 ?_;have v:=VM ([],0) (λm=>decide<|ic x.1 m.1<0) x l;have U:=VL ([],0) (λm=>decide<|ic x.1 m.1<0) x l;generalize F:j4 ([],0) (λm=>decide<|ic x.1 m.1<0) x l=d at*;refine e J<|t<|gR MT [] J J (o J<|e J<|L<|e J ?_);refine q<|aK (α:=I) (λi=>⟨[(0,N MT l),(3,.c<|.P 0 0),(5,.c<|.X 1000000),(6,cB (d i).1),(7,D i)],[(0,.box 33 0<|av MT x),(1000000,.vec 33 MT (d i).2)],4,[]⟩) (λi=>i<=G l) (λi=>G l-i) 0 (aW _) (by rw[<-F];exact(wk (aS J) ⟨bE J J,bR J,T⟩)) ?_;intro i M;have B:=v i;have W:(d i).2.length<=1001:=by split at B<;>omega
 refine L<|e J<|z J (λh1=>?_)<|λh1=>?_
 .have h1:i<G l:=by have h1:(i:Z)<(G l:Z):=az h1;omega
  have s:ad ((i:Z))=i:=aV i;have H:(Y l (ad<|(i:Z))<|ET.cJ MT)=Y l i ([],0):=aC (λu=>Y l u ([],0)) s;have w:=R (Y l i ([],0)) z8;have K:=ar2 x.1 (Y l i ([],0)).1 Q w;have f:=U i;have C:=v<|i+1;rw[<-H]at*;obtain⟨n,g⟩:∃n,n=if(!(d i).1&&decide (ic x.1 (Y l (ad<|(i:Z))<|ET.cJ MT).1<0))=ae then(d i).2++[x]else(d i).2:=⟨_,J⟩
  have E:(d<|i+1).2=n++[Y l (ad<|(i:Z)) (ET.cJ MT)]:=by rw[f,g];split<;>rfl
  have A:G n<=1001:=by rw[E,fO,wK]at C;split at C<;>omega
  refine ai<|L<|q ?_;refine oq ⟨[(0,N MT l),(3,.c<|.P 0 0),(5,.c<|.X 1000000),(6,cB (d<|i+1).1),(7,D i)],[(0,.box 33 0<|av MT x),(1000000,.vec 33 MT n)],8,[]⟩ ?_<|λp=>t<|rg 17 J J (λb=>?_)<|λb=>?_
  .refine bs (rl MT [_] J J (ra J J J J J J J J J ?_ ?_<|o J ?_) (hp:=ak))
   .show(_+1+(_+1)/4+192)*32<=_;omega
   .show(_+1)*2<=_;omega
   refine aT<|rt J<|aA (i+1) h1 xI<|Wk.trans (wk (st':=⟨[(0,N MT l),(3,.c<|.P 0 0),(5,.c<|.X 8006000),(6,cB (d<|i+1).1),(7,D ((i+1:I):Z))],[(0,.box 33 0<|av MT x),(8006000,.vec 33 MT (d<|i+1).2)],16,[]⟩) (aS J) ⟨bR J,bE J ?_,T⟩)<|Wk.trans (fp 1000000 8006000 J J J) aM;rw[E]
  .have b:(d i).1=ah:=by
    cases r:(d i).1
    .rfl
    .rw[r]at b;cases b
   refine eI J J J J J K (o J<|z J (λk=>?_)<|λk=>?_) (hp:=ak)
   .have k:decide (ic x.1 (Y l (ad<|(i:Z))<|ET.cJ MT).1<0)=ae:=k;rw[b,k]at g;rw[b,k]at f;have g:n=(d i).2++[x]:=g;refine t (rl MT [x] J J (ra J J J J J J J J J ?_ ?_<|o J ?_))
    .show(_+1+(_+1)/4+192)*32<=_;omega
    .show(_+1)*2<=_;omega
    refine rt J<|fH p<|Wk.trans (wk (st':=⟨[(0,N MT l),(3,.c<|.P 0 0),(5,.c<|.X 6003000),(6,cB (d<|i+1).1),(7,D i)],[(0,.box 33 0<|av MT x),(6003000,.vec 33 MT n)],8,[]⟩) ⟨sR J,sR J,sR J,sE J ?_,sR J,T⟩ ⟨bR J,bE J ?_,T⟩)<|Wk.trans (fp 1000000 6003000 J J J) aM
    .rw[f];rfl
    .rw[g]
   .have k:decide (ic x.1 (Y l (ad<|(i:Z))<|ET.cJ MT).1<0)=ah:=k;rw[b,k]at g;rw[b,k]at f;have g:n=(d i).2:=g;refine bN (fH p<|wk ⟨sR J,sR J,sR J,sE J ?_,sR J,T⟩ ⟨bR J,bE J ?_,T⟩)
    .rw[f,b];rfl
    .rw[g]
  .have b:(d i).1=ae:=by
    cases r:(d i).1
    .rw[r]at b;cases b
    .rfl
   rw[b]at g;rw[b]at f;have g:n=(d i).2:=g;refine o J<|z J (λk=>by cases k)<|λk=>bN<|fH p<|wk ⟨sR J,sR J,sR J,sE J ?_,sR J,T⟩ ⟨bR J,bE J ?_,T⟩
   .rw[f,b];rfl
   .rw[g]
 .have h1:i=G l:=by have h1:¬(i:Z)<(G l:Z):=aL h1;omega
  subst h1;refine aN<|ay<|L<|e J<|z J (λb=>?_)<|λb=>?_
  .have b:(d<|G l).1=ah:=by
    cases r:(d<|G l).1
    .rfl
    .rw[r]at b;cases b
   refine bs<|rl MT [x] J J (ra J J J J J J J J J ?_ ?_<|o J ?_)
   .show(_+1+(_+1)/4+192)*32<=_;omega
   .show(_+1)*2<=_;omega
   refine ay<|cD 6003000 J J J<|e J<|bq J ?_;unfold sA;rw[F,b];rfl
  .have b:(d<|G l).1=ae:=by
    cases r:(d<|G l).1
    .rw[r]at b;cases b
    .rfl
   refine ai<|cD 1000000 J J J<|e J<|bq J ?_;unfold sA;rw[F,b];rfl
section
variable{p:I}(H:aX p)
include H in
def VN:∀(lX:I)(f:V Z),G f<lX->G f<=200->Mon p f->∃R,sy p f R/\af j 86 [N u f,cU p] (N u R)
 |0,_,h,_,_=>by omega
 |lX+1,f,hN,lf,b=>by
  have r7:=H.hp.1;have C:=H.le;by_cases M:G f<=1
  .refine⟨f,sy.one H b M,?_⟩;refine yT afi J J J J J A ?_;refine e J<|L<|e J<|z J (λh=>e J<|bc<|bt<|g8 a6 J<|a7.refl _)<|λh=>?_;exfalso;have h:¬(G f:Z)<=1:=aL h;omega
  have i:=ae7 f p S S C b.c.1;have d:aY p (au<|dG p f):=gH H.pos<|zJ S f;have hDl:G (au<|dG p f)<=200:=by have:=kK<|dG p f;rw[zI]at this;omega
  have E:(fx (au<|dG p f):Fx p)=bp (fx f):=by rw[pK,MN]
  have k:au (dG p f)=[]->bp (fx f:Fx p)=0:=Ie H;generalize au (dG p f)=l at*;by_cases v:l=[]
  .obtain⟨e1,e2,e3,e4⟩:=Ia H b S<|k v;obtain⟨R,r1,r2⟩:=VN lX _ S S e1;refine⟨R,r1.root H b S<|k v,?_⟩;have F:G (ia p f<|fi p<|G f)=fi p (G f):=by simp[ia]
   have hk:∀a,a<fi p (G f)↔a*p<G f:=λa=>by unfold fi;rw[<-Nat.add_one_le_iff,Nat.le_div_iff_mul_le S,Nat.succ_mul];omega
   have K:∀a,a<fi p (G f)->Y (ia p f<|fi p<|G f) a 0=Y f (a*p) 0:=λa hj=>by unfold ia;rw[aF,gj,jW hj];rfl
   rw[F]at e3 e4;generalize ia p f (fi p<|G f)=O at*;generalize fi p (G f)=m at*;subst v;refine yT afi J J J J J A ?_;refine e J<|L<|e J<|z J (λh=>?_)<|λh=>bN<|ay ?_
   .exfalso;have h:(G f:Z)<=1:=az h;omega
   refine t<|rc J J i<|o J<|L<|e J<|z J (λ_=>?_)<|λh=>bS;refine t<|gR u [] J J (o J<|L<|e J ?_);refine q<|aK (α:=I) (λa=>⟨[(0,N u f),(1,cU p),(6,.c<|.X 4000000),(7,D ((a*p:I):Z))],[(4000000,.vec 25 u<|y a O)],6,[]⟩) (λa=>a<=m) (λa=>m-a) 0 (aW _) (by rw[vQ];exact aM) ?_;intro a hj;have hl:(y a O).length=a:=bP;refine L<|e J<|z J (λh=>?_)<|λh=>?_
   .have h:a*p<G f:=by have h:((a*p:I):Z)<(G f:Z):=az h;omega
    have Q:=(hk a).2 h;have ei:ad (((a*p:I):Z))=a*p:=aV _;refine bN<|ay<|L<|q<|bs<|rl u [_] J J (ra J J J J J J J J J ?_ ?_<|o J ?_) (hp:=ak)
    .show(_+1+(_+1)/4+192)*8<=_;omega
    .show(_+1)*1<=_;omega
    refine dy<|ay<|rt J (hp:=ak)<|aA (a+1) Q (S:m-(a+1)<m-a)<|Wk.trans (wk (st':=⟨[(0,N u f),(1,cU p),(6,.c<|.X 7006000),(7,D (((a+1)*p:I):Z))],[(7006000,.vec 25 u<|y (a+1) O)],16,[]⟩) ⟨sR J,sR J,sR J,sE J ?_,T⟩ ⟨bE J ?_,T⟩)<|Wk.trans (fp 4000000 7006000 J J J) aM
    .refine gh (show((a*p:I):Z)+(p:Z)=(((a+1)*p:I):Z)from ?_);rw[Nat.succ_mul];omega
    .refine aC (aH.vec 25 u) ?_;rw[jK _ a S,K a Q,ei]
   .have h:¬a*p<G f:=by have h:¬((a*p:I):Z)<(G f:Z):=aL h;omega
    have ejm:a=m:=by have:=mt (hk a).1 h;omega
    subst ejm;rw[iI S];exact jS<|lJ<|kF<|jT<|ay<|cD 4000000 J J J<|t<|rc J J r2<|o J<|bc<|bt<|g8 a6 J<|a7.refl _
  .obtain⟨x,m2,m3,_⟩:=qQ H b.c d b.ne;obtain⟨q1,q2,q3,q4⟩:=tX H b x m2;have mX:G (c8 p f l)<G f:=by
    have Re:(fx l:Fx p)≠0:=λbZ=>v<|pL d (nS H.pos)<|bZ.trans jX.symm
    have M:=fV H m3 Re;have h3:=Bz H (fx f:Fx p);rw[<-E,bO b.c]at h3;rw[bO x.c]at M;omega
   obtain⟨U,B,s2⟩:=VN lX (c8 p f l) S S x;obtain⟨_,t2⟩:=sy.step H b S d E v J B J;have qT:=B.len;refine⟨_,t2,?_⟩;have W:=Bt p H.hp H.le f l S S b.c d;have s:=zu p H.hp H.le f (c8 p f l) S S b.c x.c x.ne;rw[uQ q1.c.2]at s;generalize c8 p f l=g at*;generalize (aJ f g p).1=P at*;obtain⟨w,n2,n3,_⟩:=qQ H q1.c B.aG.c q1.ne;obtain⟨u1,u2,u3,u4⟩:=tX H B.aG w n3;have r:=Bt p H.hp H.le P U S S q1.c B.aG.c;have n:=zu p H.hp H.le U (c8 p P U) S S B.aG.c w.c w.ne;rw[uQ u1.c.2]at n;generalize c8 p P U=c at*;have pc:=w.pos;have pg:=x.pos;have GD:=uP P (aJ U c p).1 p S S S S q1.c.1 u1.c.1;refine yT afi J J J J J A ?_;refine e J<|L<|e J<|z J (λh=>?_)<|λh=>bN<|ay ?_
   .exfalso;have h:(G f:Z)<=1:=az h;omega
   refine t<|rc J J i<|o J<|L<|e J<|z J (λh=>?_)<|λ_=>bN<|ay ?_
   .exfalso;have h:(G l:Z)=0:=eq_of_beq h;exact v<|et S
   exact t<|rc J J W<|o J<|t<|rc J J s<|o J<|t<|rc J J s2<|o J<|t<|rc J J r<|rc J J n<|rc J J GD<|o J<|bc<|g8 a6 J<|a7.refl _
def afj(m:I)(g:V Z):∀(a:V (V Z))(x:V Z×V (V Z×Z)),fY p m (a++[g]) x=((pull p g ((fY p m a x).1.length+1) (fY p m a x).1 0).1,(fY p m a x).2++[(g,(((pull p g ((fY p m a x).1.length+1) (fY p m a x).1 0).2:I):Z)*(m:Z))])
 |[],x=>rfl
 |r::a,x=>by rw[kU,fY,afj m g a,fY]
noncomputable def kh(p:I)(a:V Z)(l:V (V Z)):I->V Z×V (V Z×Z)
 |0=>(a,[])
 |i+1=>((pull p (l.getD i []) ((kh p a l i).1.length+1) (kh p a l i).1 0).1,sA ([],0) (λb=>decide<|ic (l.getD i []) b.1<0) (l.getD i [],(((pull p (l.getD i []) ((kh p a l i).1.length+1) (kh p a l i).1 0).2:I):Z)) (kh p a l i).2)
def VO(a:V Z)(l:V (V Z)):∀i,i<=G l->(kh p a l i).1=(fY p 1 (y i l) (a,[])).1/\(kh p a l i).2.Perm (fY p 1 (y i l) (a,[])).2
 |0,_=>⟨J,uY _⟩
 |i+1,d=>by
  let ⟨c,h2⟩:=VO a l i S;have b:y (i+1) l=y i l++[l.getD i []]:=by rw[mM,aF,bD S];rfl
  rw[b,afj,kh,c];refine⟨J,(afh _ _ _ _).trans ?_⟩;have e:∀z:Z,z*((1:I):Z)=z:=λz=>lA z
  rw[e];exact(List.Perm.cons _ h2).trans<|ar3 (l₁:=[_])
def afk(m:I):∀(c:V (V Z))(x:V Z×V (V Z×Z)),∀b∈(fY p m c x).2,b∈x.2\/b.1∈c
 |[],x,b,d=> .inl d
 |r::c,x,b,d=>by
  rw[fY]at d;rcases afk m c _ b d with a|a
  .rcases b8.1 a with a|a
   .exact .inl a
   .rw[iu.1 a];exact .inr ax
  .exact .inr (by simp[a])
def wv.take{f:V Z}{a:V (V Z)}(b:wv p f a)(i:I):wv p f (y i a):=
 ⟨λg c=>b.ok g<|Ai c,b.ds.sublist (List.take_sublist i a)⟩
include H in
def afl(pm:p<=2147483647){a:V Z}(la:G a<=200)(ha:∀i,0<=Y a i 0)(h0:au (md p a)≠[])(hd:∀d,2*d<G (au<|md p a)->2*p^d<=18446744073709551616):∃ns,pT p (fx<|jL p<|au<|md p a) ns/\af j 27 [N u a,cU p] (.t [(ah,[.S MT ns]),(ah,[.I .i64 0])]):=by
 have r7:=H.hp.1;have O5:=uO a p S S S ha;have K:aY p (au<|md p a):=gH H.pos<|pH H.pos a;have hal:G (au<|md p a)<=200:=by have:=kK<|md p a;rw[oU]at this;omega
 have VP:=RJ p H.hp H.le (au<|md p a) S K;let ⟨m1,m2,_⟩:=HH H K h0;generalize au (md p a)=A at*;generalize jL p A=b at*;let ⟨R,r1,r2⟩:=VN H _ b (di _) S m1;have Hr:=r1.len;have hsq:=ar1 H r1.aG r1.jN S<|λd N8=>hd d S;have f:=aff H (F:=R) (λd N8=>hd d S) (G R) ⟨R,[0,1],1,[]⟩ (oF.start H r1.aG r1.jN S) (S:G R<1+G R);generalize yt H (G R) ⟨R,[0,1],1,[]⟩=l at*;have P:=arL H m1 r1 f;have RP:=ae0 H r1 f;let ⟨f1,f2⟩:=VO (p:=p) b l (G l)<|a8 _;rw[eE]at f1 f2;refine⟨(kh p b l<|G l).2,P.perm f2,?_⟩;have DU:G l<=200:=by
  let ⟨h3,h4⟩:=H7 H (l:=l) λg Q=>⟨(f.parts g Q).1,(f.parts g Q).2.1⟩
  rw[f.prod,bO r1.aG.c]at h4;omega
 have hI:=λi=>Ic H (y i l) b [] (mY.start m1) (RP.take i)
 refine aD Tryz.func27 ?_;refine e J<|L<|aO J J (LP p H.hp pm) J<|z J (λh=>bS)<|λ_=>ai ?_;refine t<|rc J J O5<|rc J J VP<|o J<|L<|e J<|z J (λh=>?_)<|λ_=>ai ?_
 .exfalso;have h:(G b:Z)=0:=eq_of_beq h;have:=m1.pos;omega
 refine t<|rc J J r2<|rc J J hsq<|o J<|t<|rl MT [] J J (o J<|L<|e J ?_);refine q<|aK (α:=I) (λi=>⟨[(1,cU p),(6,N u (kh p b l i).1),(7,N (.sl u) l),(8,N MT (kh p b l i).2),(9,D i)],[],8,[]⟩) (λi=>i<=G l) (λi=>G l-i) 0 (aW _) aM ?_;intro i hi;let ⟨k1,k2⟩:=VO (p:=p) b l i hi;let ⟨i1,i2,_⟩:=hI i;rw[<-k1]at i1 i2;let ⟨i3,_,_⟩:=i1.bounds H;have i3:(fY p 1 (y i l) (b,[])).2.length+1<=G b:=by rwa[bO m1.c]at i3
 have hq:=k2.length_eq;have i2:(kh p b l i).1.length<=G b:=i2;refine L<|e J<|z J (λh=>?_)<|λh=>?_
 .have h:i<G l:=by have h:(i:Z)<(G l:Z):=az h;omega
  have ei:ad ((i:Z))=i:=aV i;have xn:(Y l (ad<|(i:Z))<|ET.cJ<|.sl u)=l.getD i []:=aC (λg6=>l.getD g6 []) ei;have x:l.getD i []∈l:=by rw[aF,bD h];exact j6 h
  let ⟨C,g2,_⟩:=f.parts _ x;have U:∀g∈l,G g<=200:=λg Q=>by have h3:=fV H (x6 p Q) (by rw[f.prod];exact r1.aG.gI H);rw[f.prod,bO r1.aG.c,bO (f.parts g Q).1.c]at h3;omega
  have mX:=U _ x;have W:∀m∈(kh p b l i).2,G m.1<=1000:=λm hy=>by
   rcases afk 1 (y i l) (b,[]) m (k2.mem_iff.1 hy)with X|X
   .cases X
   .have:=U _<|Ai X;omega
  have hF1:(kh p b l<|i+1).1=(pull p (l.getD i []) ((kh p b l i).1.length+1) (kh p b l i).1 0).1:=rfl;have hF2:(kh p b l<|i+1).2=sA ([],0) (λm=>decide<|ic (l.getD i []) m.1<0) (l.getD i [],(((pull p (l.getD i []) ((kh p b l i).1.length+1) (kh p b l i).1 0).2:I):Z)) (kh p b l i).2:=rfl;have r:=λn:I=>ar4 (kh p b l i).2 (l.getD i [],(n:Z)) S (by show G (l.getD i [])<=_;omega) W
  have hm:=i1.aG;generalize hT:pull p (l.getD i []) ((kh p b l i).1.length+1) (kh p b l i).1 0=dR at*;rw[<-xn]at*;refine ai<|L<|q<|e J<|L ?_;refine q<|aK (α:=I×V Z×I) (λm=>⟨[(1,cU p),(6,N u m.2.1),(7,N (.sl u) l),(8,N MT (kh p b l i).2),(9,D i),(10,D m.2.2)],[],10,[]⟩) (λm=>pull p (Y l (ad<|(i:Z))<|ET.cJ<|.sl u) m.1 m.2.1 m.2.2=dR/\G m.2.1<m.1/\Mon p m.2.1/\m.2.2+G m.2.1<=200) (λm=>m.1) ((kh p b l i).1.length+1,(kh p b l i).1,0) ⟨hT,di _,hm,by show 0+(kh p b l i).1.length<=_;omega⟩ aM ?_;rintro⟨k,B,n⟩ ⟨E,b2,w,b4⟩;simp only at E b2 w b4;obtain⟨k,rfl⟩:∃k',k=k'+1:=⟨k-1,S⟩;rw[pull]at E;have VK:=tr p H.hp H.le B _ S S w.c C.c C.ne;refine L<|t<|rc J J VK (o J<|z J (λv=>?_)<|λv=>?_) (hp:=ak)
  .have v:(aJ B (Y l (ad<|(i:Z))<|ET.cJ<|.sl u) p).2=[]:=et (by have:=eq_of_beq v;omega);rw[s v]at E;have hdd:=(HE H w.c C.c C.ne).1 v;let ⟨q1,q2,q3,q4⟩:=tX H w C hdd;have O:=zu p H.hp H.le B _ S S w.c C.c C.ne;rw[uQ q1.c.2]at O;refine ai (q<|t<|rc J J O (o J<|rt J (hp:=ak)<|dy<|aA (k,(aJ B (Y l (ad<|(i:Z))<|ET.cJ<|.sl u) p).1,n+1) ⟨E,?_,q1,?_⟩ (di k) aM) (hp:=ak))
   .show(aJ B (Y l (ad<|(i:Z))<|ET.cJ<|.sl u) p).1.length<k;omega
   .show n+1+(aJ B (Y l (ad<|(i:Z))<|ET.cJ<|.sl u) p).1.length<=200;omega
  .have v:(aJ B (Y l (ad<|(i:Z))<|ET.cJ<|.sl u) p).2≠[]:=λX=>by have v:¬((aJ B (Y l (ad<|(i:Z))<|ET.cJ<|.sl u) p).2.length:Z)=0:=fT v;rw[X]at v;exact v J
   rw[M v]at E;subst E;have r:=r n;rw[<-hF2]at r;refine aN<|ay ?_;refine bs<|rc J J r (o J<|aT<|rt J (hp:=ak)<|aA (i+1) h xI<|wk ⟨sR J,sE J ?_,sR J,sR J,sR J,T⟩ T) (hp:=ak);rw[hF1]
 .have h:i=G l:=by have h:¬(i:Z)<(G l:Z):=aL h;omega
  subst h;exact aN<|ay<|e J<|bU J
end
def mi(a b:V Z):V Z:=(be<|max (G a)<|G b).map λi=>Y a i 0-Y b i 0
def afm a b:G (mi a b)=max (G a) (G b):=by simp[mi]
def Fj a b i:Y (mi a b) i 0=Y a i 0-Y b i 0:=by
 by_cases h:i<max (G a) (G b)
 .unfold mi;rw[aF,gj,jW h];rfl
 .rw[cF _ (by rw[afm];omega),cF a S,cF b S];rfl
def afn a b g(v:g<=100000)(x:G a<=1000)(B:G b<=1000)(m:∀i,aw g (Y a i 0))(n:∀i,aw g (Y b i 0)):af j 237 [N .z a,N .z b] (N .z<|au<|mi a b):=by
 refine aD Tryz.func237 ?_;have C:=afm a b;have p:=Fj a b;generalize hM:max (G a) (G b)=M at*;have r:M<=1000:=S;generalize mi a b=f at*;refine e J<|t<|gR .z [] J J (o J<|L<|e J ?_);refine q<|aK (α:=I) (λi=>⟨[(0,N .z a),(1,N .z b),(5,.c<|.X 1000000),(6,D i)],[(1000000,.vec 44 .z<|y i f)],3,[]⟩) (λi=>i<=M) (λi=>M-i) 0 (aW _) aM ?_;intro i E;have F:(y i f).length=i:=bP;by_cases k:i<M
 .refine oq ⟨[(0,N .z a),(1,N .z b),(5,.c<|.X 1000000),(6,D i)],[(1000000,.vec 44 .z<|y i f)],4,[]⟩ ?_ (λd=>t<|rg 12 J J (λh=>o J<|z J (λ_=>bN<|fH d aM)<|λh2=>nl)<|λh=>o J<|z J (λ_=>bN<|fH d aM)<|λh2=>?_)
  .refine L<|q<|bs ?_;refine rc J J (G3 a i)<|rc J J (G3 b i)<|rc J J (Q5 (Y a i 0) (Y b i 0) ((m i).sm S)<|(n i).sm S) ?_;refine rl .z [Y a i 0-Y b i 0] J J (ra J J J J J J J J J ?_ ?_<|o J ?_)
   .show(_+1+(_+1)/4+192)*32<=_;omega
   .show(_+1)*2<=_;omega
   refine aT<|rt J<|aA (i+1) k xu<|Wk.trans (wk (st':=⟨[(0,N .z a),(1,N .z b),(5,.c<|.X 4009000),(6,D ((i+1:I):Z))],[(4009000,.vec 44 .z<|y (i+1) f)],8,[]⟩) (aS J) ⟨bE J ?_,T⟩)<|Wk.trans (fp 1000000 4009000 J J J) aM;rw[jK _ i S,p i]
  .exfalso;have h:¬(i:Z)<(G a:Z):=aL h;have h2:¬(i:Z)<(G b:Z):=aL h2;omega
 .have l:i=M:=by omega
  subst l;rw[iI S];refine L<|t<|rg 12 J J (λh=>?_)<|λh=>?_
  .exfalso;have h:(i:Z)<(G a:Z):=az h;omega
  .refine o J (z J (λh2=>?_)<|λh2=>?_)
   .exfalso;have h2:(i:Z)<(G b:Z):=az h2;omega
   .exact aN<|ay<|cD 1000000 J J J<|aO J J (La _) J<|bU J
def iS(p:Z)(l:V (V Z)):I->V Z
 |0=>[1]
 |i+1=>bT (iS p l i) (l.getD i []) p
section
variable{p:I}(H:aX p)
include H
def afo:aY p [1]:=⟨pI S qM,.inr H4⟩
def ar':Mon p [1]:=⟨afo H,ax,J⟩
def Cj{l:V (V Z)}(c:∀g∈l,Mon p g/\1<=G g):∀i,i<=G l->Mon p (iS p l i)/\(fx (iS p l i):Fx p)=eD p (y i l)/\G (iS p l i)=1+b7 (y i l)
 |0,_=>⟨ar' H,by rw[iS,uT];rfl,J⟩
 |i+1,m=>by
  let ⟨d,h2,n⟩:=Cj c i S;have a:l.getD i []∈l:=by rw[aF,bD S];exact j6 _
  let ⟨f,g2⟩:=c _ a;let ⟨t1,t2⟩:=VB H d f;have b:y (i+1) l=y i l++[l.getD i []]:=by rw[mM,aF,bD S];rfl
  have k:b7 (y i l++[l.getD i []])=b7 (y i l)+(G (l.getD i [])-1):=by rw[ES];rfl
  rw[b,iS];refine⟨t1,?_,?_⟩
  .rw[rX,h2,BG,eD,eD,mul_one]
  .rw[k];omega
theorem afp(l:V (V Z))(i:I):b7 (y i l)<=b7 l:=by
 conv=>rhs;rw[<-ri i l]
 rw[ES];omega
def afq{l:V (V Z)}(d:∀g∈l,Mon p g/\1<=G g)(E:b7 l<=900)(F:G l<=1000):af j 166 [N (.sl u) l,cU p] (N u<|iS p l<|G l):=by
 refine aD Tryz.func166 ?_;have r:=H.hp.1;have k:=H.le;refine e J<|t<|rl u [1] J J (o J<|L<|e J ?_);refine q<|aK (α:=I) (λi=>⟨[(0,N (.sl u) l),(1,cU p),(5,N u<|iS p l i),(6,D i)],[],4,[]⟩) (λi=>i<=G l) (λi=>G l-i) 0 (aW _) aM ?_;intro i v;refine L<|e J<|z J (λh1=>?_)<|λh1=>?_
 .have h1:i<G l:=by have h1:(i:Z)<(G l:Z):=az h1;omega
  have x:ad ((i:Z))=i:=aV i;have f:(Y l (ad<|(i:Z))<|ET.cJ<|.sl u)=l.getD i []:=aC (λB=>l.getD B []) x;have b:l.getD i []∈l:=z8;let ⟨t1,_,t3⟩:=Cj H d i v;have K:=afp H l i;have P:=afp H l<|i+1;let ⟨_,_,m⟩:=Cj H d (i+1) h1;let ⟨n,g2⟩:=d _ b;let ⟨_,t7⟩:=VB H t1 n;have a:=uP (iS p l i) (l.getD i []) p S (by have m:G (bT (iS p l i) (l.getD i []) p)=_:=m;omega) S S t1.c.1 n.c.1;have C:iS p l (i+1)=bT (iS p l i) (l.getD i []) p:=rfl;rw[<-C]at a;rw[<-f]at a;exact ai<|L<|q<|bs<|rc J J a (o J<|aT<|rt J (hp:=ak)<|aA (i+1) h1 xI aM) (hp:=ak)
 .have h1:i=G l:=by have h1:¬(i:Z)<(G l:Z):=aL h1;omega
  subst h1;exact aN<|ay<|e J<|bU J
end
section
variable{p:I}
structure vr where
 a:V Z
 b:V Z
 t:V Z
 n:V Z
def vr.q(p:I)(x:vr):V Z:=au (aJ x.a x.b p).1
def vr.next(p:I)(x:vr):vr:=⟨x.b,(aJ x.a x.b p).2,x.n,au<|hZ x.t (bT (x.q p) x.n p) p⟩
def Ck(p:I):I->vr->vr
 |0,x=>x
 |k+1,x=>if x.b=[]then x else Ck p k (x.next p)
structure Cl(p:I)(g h:V Z)(C:I)(x:vr):Prop where
 ca:aY p x.a
 cb:aY p x.b
 ct:aY p x.t
 cn:aY p x.n
 a0:x.a≠[]
 l1:x.n.length+x.a.length<=C
 l2:x.t.length+x.b.length<=C
 d1:(fx g:Fx p)∣fx x.a-fx x.t*fx h
 d2:(fx g:Fx p)∣fx x.b-fx x.n*fx h
 co:Co (fx x.a:Fx p) (fx x.b)
variable(H:aX p)
include H
def asa{a b:V Z}(d:aY p a)(f:aY p b)(c:b≠[]):(fx a:Fx p)=fx (aJ a b p).1*fx b+fx (aJ a b p).2:=
 mk_eq.2 (iO H.hp H.le d.1 f c).1
def Cl.next{g f:V Z}{C:I}{x:vr}(d:Cl p g f C x)(i:x.b≠[]):Cl p g f C (x.next p)/\(x.next p).b.length<G x.b:=by
 let ⟨_,u,w,y,F,K⟩:=iO H.hp H.le d.ca.1 d.cb i;have v:=asa H d.ca d.cb i;have z:=d.l1;have J:=d.l2;have L:=bX.2 i;have l:(fx (x.q p):Fx p)=fx (aJ x.a x.b p).1:=pK _;have P:G (x.q p)<=G x.a-(G x.b-1):=by have:=kK (aJ x.a x.b p).1;rw[K]at this;exact this
 have m:=kK<|hZ x.t (bT (x.q p) x.n p) p;rw[LR]at m;have Q:G (bT (x.q p) x.n p)+G x.b<=C:=by
  by_cases e:x.q p=[]\/x.n=[]
  .unfold bT;rw[s e,k6];omega
  .have R:x.q p≠[]:=λk=>e (.inl k)
   have W:x.n≠[]:=λk=>e<|.inr k
   have:=qI (x.q p) x.n p;have M:=bX.2 R;have N:=bX.2 W;omega
 have r:(fx (x.next p).n:Fx p)=fx x.t-fx (aJ x.a x.b p).1*fx x.n:=by show(fx (au<|hZ x.t (bT (x.q p) x.n p) p):Fx p)=_;rw[RS,rX,l]
 have X:(fx (aJ x.a x.b p).2:Fx p)=fx x.a-fx (aJ x.a x.b p).1*fx x.b:=D1 (by rw[add_comm,<-v]);refine⟨⟨d.cb,F d.ca,d.cn,gH H.pos<|Bp H.pos _ _,i,?_,?_,d.d2,?_,?_⟩,by show(aJ x.a x.b p).2.length<_;omega⟩
 .show G (au _)+G x.b<=C;omega
 .show G x.n+(aJ x.a x.b p).2.length<=C;by_cases c:G x.b<=G x.a
  .omega
  .have:(aJ x.a x.b p).2=x.a:=by unfold aJ;rw[s S]
   rw[this];omega
 .show(fx g:Fx p)∣fx (aJ x.a x.b p).2-fx (x.next p).n*fx f;rw[X,r,sub_mul];have j:(fx g:Fx p)∣fx (aJ x.a x.b p).1*fx x.b-fx (aJ x.a x.b p).1*(fx x.n*fx f):=pJ (nT _ _) d.d2;have o:=dvd_sub d.d1 j;have e:∀A B C D:Fx p,A-B-(C-D)=A-C-(B-D):=λA B C D=>by rw[sub_def (A-B),neg_sub,sub_def<|A-C,neg_sub,sub_def A,sub_def D,sub_def A,sub_def D];ac_rfl
  rw[e]at o;rwa[mul_assoc (fx (aJ x.a x.b p).1)]
 .let ⟨U,E,e⟩:=d.co;refine⟨U*fx (aJ x.a x.b p).1+E,U,?_⟩;show(U*fx (aJ x.a x.b p).1+E)*fx x.b+U*fx (aJ x.a x.b p).2=1;rw[<-e,v,add_mul,mul_add];ac_rfl
def afr{g c:V Z}{C:I}:∀(k:I)(x:vr),Cl p g c C x->G x.b<k->Cl p g c C (Ck p k x)/\(Ck p k x).b=[]
 |0,x,_,f=>by omega
 |k+1,x,d,f=>by
  rw[Ck];split
  .rename_i a;exact⟨d,a⟩
  .rename_i a;let ⟨i,l⟩:=d.next H a;exact afr k _ i S
def asb{g d:V Z}(r:Mon p g)(hh:Mon p d)(g2:2<=G g)(lg:G g<=100)(lh:d.length<=100)(Ub:Co (fx g:Fx p) (fx d)):∃W,aY p W/\G W<G g/\(fx g:Fx p)∣fx W*fx d-1/\af j 236 [N u g,N u d,cU p] (N u W):=by
 have r7:=H.hp.1;have BI:=H.le;have I0:Cl p g d 101 ⟨g,d,[],[1]⟩:=⟨r.c,hh.c,nS H.pos,afo H,r.ne,by show 1+G g<=_;omega,by show 0+d.length<=_;omega,by rw[jX,zero_mul,sub_zero];exact dvd_refl _,by rw[uT,one_mul,sub_self];exact dvd_zero _,Ub⟩;let ⟨E,e0⟩:=afr H (d.length+1) ⟨g,d,[],[1]⟩ I0<|di _;generalize hX:Ck p (d.length+1) ⟨g,d,[],[1]⟩=X at*;have hu:sz (fx X.a:Fx p)=1:=by let ⟨U,sf,l⟩:=E.co;rw[e0,jX,mul_zero,add_zero]at l;exact xY H l
 rw[bO E.ca]at hu;obtain⟨c,w⟩:∃c,X.a=[c]:=by
  match hxa:X.a,hu with
  |[c],_=>exact⟨c,J⟩
 have m:0<=c/\c<p:=by have:=E.ca.1 0;rw[w]at this;exact this
 have C:c≠0:=by
  rcases E.ca.2 with l|l
  .exact absurd l E.a0
  .rw[w]at l;exact l
 have F:=Rw c p m C S S;have A:=we H.hp H.le m.1 m.2 C;have D:((eQ (ad c) (ad ((p:I):Z)):I):Z)<p:=by rw[YY _ _ xH xH,aV];have:=fg (ad c^(p-2)) (S:0<p);omega
 generalize eQ (ad c) (ad ((p:I):Z))=v at*;have l2:=E.l2;have O:=uP [(v:Z)] X.t p ax S S S (pI S D) E.ct.1;have P:=qI [(v:Z)] X.t p;have T:=tr p H.hp H.le (bT [(v:Z)] X.t p) g (by simp at P;omega) S (je H.pos _ _) r.c r.ne;let ⟨r1,r2,r3⟩:=wM H (je H.pos [(v:Z)] X.t) r.c r.ne;refine⟨_,r1,r2,?_,?_⟩
 .rw[rX,Hy]at r3;have k1:(fx g:Fx p)∣fx (aJ (bT [(v:Z)] X.t p) g p).2*fx d-K v*fx X.t*fx d:=pJ r3<|nT _ _;have k2:(fx g:Fx p)∣K v*fx X.a-K v*(fx X.t*fx d):=pJ (nT _ _) E.d1;rw[w,Hy,<-eS,rW (a:=(v:Z)*c) (b:=1) (by rw[ew,A,H.one]),<-mul_assoc]at k2;exact lR k1<|kM k2
 refine aD Tryz.func236 ?_;refine e J<|e J<|t<|rl u [] J J (rl u [1] J J (o J ?_));refine L<|q<|aK (α:=I×vr) (λy=>⟨[(0,N u g),(1,N u d),(2,cU p),(7,N u y.2.a),(8,N u y.2.b),(9,N u y.2.t),(10,N u y.2.n)],[],3,[]⟩) (λy=>Cl p g d 101 y.2/\G y.2.b<y.1/\Ck p y.1 y.2=X) (λy=>y.1) (d.length+1,⟨g,d,[],[1]⟩) ⟨I0,di _,hX⟩ aM ?_;rintro⟨k,x⟩ ⟨f,hk,B⟩;simp only at f hk B;obtain⟨k,rfl⟩:∃k',k=k'+1:=⟨k-1,S⟩;rw[Ck]at B;have l1:=f.l1;have l2:=f.l2;refine L<|e J<|z J (λi=>?_)<|λi=>?_
 .have i:0<G x.b:=by have i:(G x.b:Z)>0:=az i;omega
  have Q:x.b≠[]:=bX.1 i;rw[M Q]at B;let ⟨n1,n2⟩:=f.next H Q;have R:=zu p H.hp H.le x.a x.b S S f.ca f.cb Q;have Y:au (aJ x.a x.b p).1=x.q p:=rfl;rw[Y]at R;have hq:G (x.q p)<=101:=by have:=kK (aJ x.a x.b p).1;rw[(iO H.hp H.le f.ca.1 f.cb Q).2.2.2.2.2]at this;show G (au _)<=_;omega
  have hqc:aY p (x.q p):=gH H.pos (iO H.hp H.le f.ca.1 f.cb Q).2.1;have vZ:=uP (x.q p) x.n p S S S S hqc.1 f.cn.1;have hmc:=je H.pos (x.q p) x.n;have P:=qI (x.q p) x.n p;have VQ:=Hm x.t (bT (x.q p) x.n p) p S S S S f.ct.1 hmc.1;exact bN<|ay<|q<|t<|rc J J R<|o J<|e J<|e J<|t<|rc J J vZ<|rc J J VQ<|o J<|e J<|rt J<|dy<|aA (k,x.next p) ⟨n1,(S:(x.next p).b.length<k),B⟩ (di k) aM
 .have i:x.b=[]:=et (by have i:¬(G x.b:Z)>0:=aL i;omega);rw[s i]at B;subst B;refine aN<|ay ?_;show TR _ _ _ ⟨_,_,_,_⟩ _;simp only[w];exact aO J J F J<|t<|rl u [(v:Z)] J J (rc J J O<|rc J J T<|o J<|bU J)
end
end Go.El
