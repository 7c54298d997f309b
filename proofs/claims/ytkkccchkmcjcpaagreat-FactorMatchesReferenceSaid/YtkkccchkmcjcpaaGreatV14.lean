/- Contracts: squarefree parts over the rationals, by the plain law. Own work; no condition. -/
import Derived.Test.YtkkccchkmcjcpaaGreatV13
import Derived.Test.YtkkccchkmcjcpaaGreatV10
import Derived.Test.YtkkccchkmcjcpaaGreatV9
import Derived.Test.YtkkccchkmcjcpaaGreatV12
import Derived.Test.YtkkccchkmcjcpaaGreatV5
import Derived.Test.YtkkccchkmcjcpaaGreatV11
set_option linter.all false
set_option maxHeartbeats 16000000
set_option maxRecDepth 100000
open Bool renaming true->ae,false->ah
open Go.El renaming rr->e,cS->N,vL->q,gy->L,cI->D,re->o,auI->z,rb->t
open Go.Proofs.Tryz renaming prog->j
open Int renaming toNat->ad,gcd->fh,natAbs->aq
open List renaming length->G,getD->Y,range->be,take->y,drop->aE
open List.Pairwise renaming nil->wu
open Nat renaming gcd->lZ
open Rat renaming divInt->iE
open _root_ renaming List->V,Nat->I,Int->Z,Rat->O
namespace Go.El
open Go Go.Proofs Rx
def Ov{s t u}(k:s<=100000000){a b}(f:bY b)(c:b≠[])(x:G a<=500)(B:G b<=500)(l:Ht (2^t) (lx a))(g:Ht (2^u) (lx b))(m:t+(u+1)*(G a+1-G b)<32*s)(n:u<32*s):af j 198 [N .q a,N .q b] (N .q<|eX a b):=by
 have C:=bX.2 c;by_cases d:G a<G b
 .rw[eX,aqi d];exact aoG a b d S
 .let ⟨_,_,p⟩:=E6 f c l g;rw[eX,M d];exact aoH (s:=s) S k a b (G b-1) (G a+1-G b) S S S S (f.ne c) (λi=>g.qs (m7 n) i)<|λr v i=>(p S r v).qs (m7 m) i
def adZ{s t}(m:s<=100000000){a b}(c:bY a)(d:bY b)(n:a≠[])(f:b=[]\/G b<G a)(p:G a<=500)(r:Ht (2^t) (lx a))(v:Ht (2^t) (lx b))(x:(t+1)*3^G a<=32*s):∃g,af j 197 [N .q a,N .q b] (N .q g)/\bY g/\zQ (lx g) (lx a) (lx b):=by
 let ⟨B,C,K⟩:=UQ (s:=s) (G b+1) t a b c d S f p r v x;let ⟨l,g2,E⟩:=adW (k:=G b+1) c d S n;have F:bY (fJ (G b+1) a b):=(UO (G b+1) a b c d S).1;have H:0<3^G a:=lN A;have i:1<=s:=by have:=ly (S:1<=t+1) (show 1<=3^G a from H);omega
 exact⟨_,aqd i m (G b+1) a b B l S (F.ne l) C,g2,E⟩
def ad0{s t}(d:s<=100000000){a}(f:G a<=500)(b:Ht (2^t) (lx a))(c:t<32*s):af j 196 [N .q a] (N .q<|dV<|kC a):=aoB (s:=s) S S a S<|λi=>b.qs (m7 c) i
def aqj{s t}(k:s<=100000000){a b}(l:G a<=500)(m:G b<=500)(c:0<max (G a) (G b))(f:Ht (2^t) (lx a))(g:Ht (2^t) (lx b))(d:t<32*s):af j 202 [N .q a,N .q b] (N .q<|dV<|tT a (-1) b):=aoD (s:=s) S S a b S S c (λi=>f.qs (m7 d) i)<|λi=>g.qs (m7 d) i
def aqk a b:lx (dV<|tT a (-1) b)=lx a-lx b:=by rw[vp,aqf,zy,l4,neg_mul,one_mul,sub_def]
noncomputable def mI(a:V (Rx×I)):I->I->V (Rx×Z)
 |0,_=>[]
 |k+1,n=>(if 1<sz (pF (kP n) a)then[(pF (kP n) a,(n:Z))]else[])++mI a k (n+1)
def Ow{a:V (Rx×I)}:∀(k:I){n:I},(∀x∈a,x.2<n)->mI a k n=[]
 |0,_,_=>rfl
 |k+1,n,c=>by
  have d:pF (kP n) a=1:=Na λx b=>M (by have:=c x b;omega)
  rw[mI,d,np,M S,Ow k (λx b=>by have:=c x b;omega),iW]
def Ox{a:Rx}(b:2<=sz a):∀n,n+1<=sz (pk a n)
 |0=>by rw[show pk a 0=1 from J,np];omega
 |n+1=>by
  have c:a≠0:=λe=>by rw[e,kd]at b;omega
  have d:=Ox b n;have f:pk a n≠0:=λe=>by rw[e,kd]at d;omega
  have:=dE f c;rw[pk];omega
def ad1{c:I->I}:∀{a:V (Rx×I)}{x:Rx×I},x∈a->pk x.1 (c x.2)∣pF c a
 |d::a,x,b=>by
  rw[pF];rcases df.1 b with rfl|b
  .exact dvd_mul_right _ _
  .exact dz (ad1 b) _
def Oy{a}(b:FL a){x}(d:x∈a):x.2<sz (pF id a):=by have f:=fV (ad1 (c:=id) d) (oZ b.mo).ne;have g:=Ox (b.fq x d).1 x.2;have i:sz (pk x.1 x.2)<=sz (pF id a):=f;omega
def ad2{U f la:I}(hs:U=100000000)(ht:f<=1500)(GW:la<=9){v:V (Rx×I)}(P:FL v)(hF:sz (pF id v)=la)(hD:∀so,Mo so->so∣pF id v->Ht (2^f) so):
  ∀(k n:I)(d E:V O)(i:V (V O×Z)),n+k=la+1->1<=k->1<=n->bY d->bY E->lx d=pF (kW n) v->Yp v n (lx E)->Ht (2^((11*f+15)*n)) (lx E)->G E<G d->
  ∃g,Cd la k n d E i (i++g)/\g.map (λp=>(lx p.1,p.2))=mI v k n/\∀p∈g,bY p.1
 |0,_,_,_,_,_,R,_,_,_,_,_,_,_=>by omega
 |k+1,n,d,E,i,hnk,_,hn,hw,hy,W,hYp,UR,iD=>by
  have mW:Mo (pF (kW n) v):=oZ P.mo;have dW:pF (kW n) v∣pF id v:=by
   refine⟨pF (λm=>m-kW n m) v,?_⟩;rw[<-zP];refine wA λx Y=>?_
   have:=P.pos x Y;show x.2=x.2-kW n x.2+kW n x.2;unfold kW;split<;>omega
  have lw:G d<=la:=by have:=fV dW (oZ P.mo).ne;rw[<-W,dH hw,hF]at this;exact this
  have w0:d≠[]:=λe=>by subst e;simp at iD
  have tw:Ht (2^f) (lx d):=by rw[W];exact hD _ mW dW
  by_cases hc:1<G d/\n<la
  .have hun:(11*f+15)*n<=(11*f+15)*8:=jw _ S;have tw':Ht (2^(f+4)) (bp<|lx d):=(tw.bp (n:=9) (by rw[dH hw];omega) S).le US;obtain⟨C,K⟩:∃C,C=dV (kC d):=⟨_,J⟩;have F:lx C=bp (lx d):=by rw[K,vp,UM]
   have X:bY C:=by rw[K];exact sn _
   have c1:af j 196 [N .q d] (N .q C):=by rw[K];exact ad0 (s:=U) (t:=f) S S tw S
   have ldw:G C<G d:=by have:=Bz (Q:=lx d);rw[<-F,dH X,dH hw]at this;omega
   have avA:1<=G C:=by have:=dX (abo (Q:=lx d)<|by rw[dH hw];omega);rw[<-F,dH X]at this;omega
   obtain⟨u,eu⟩:∃u,u=(11*f+15)*n:=⟨_,J⟩;rw[<-eu]at UR hun;have e11:(11*f+15)*(n+1)=u+(11*f+15):=by rw[eu,D3]
   have B:∀{a b:I}{nZ:Rx},Ht (2^a) nZ->a<=b->Ht (2^b) nZ:=λR Ar=>R.le<|fG A Ar
   have c2:=aqj (s:=U) (t:=u+f+4) (a:=E) (b:=C) S S S S (B UR S) (by rw[F];exact B tw' S) S;have ez:=aqk E C;have qz:=sn<|tT E (-1) C;generalize dV (tT E (-1) C)=z at c2 ez qz;rw[F]at ez;have tz:Ht (2^(u+f+5)) (lx z):=by rw[ez];refine(UR.sub tw').le<|ME ?_;rw[<-om,fR,<-fy,(S:(u+(f+4)).succ=u+f+5)]
   have lz:G z<G d:=by have:=Bv (lx E)<|bp<|lx d;rw[<-ez,<-F,dH qz,dH hy,dH X]at this;omega
   have UU:3^G d<=19683:=cQ (fG A (S:G d<=9)) A;have hb9:(u+f+5+1)*3^G d<=32*U:=by refine cQ (jw _ UU) ?_;omega
   let ⟨p,c3,H,o⟩:=adZ (s:=U) (t:=u+f+5) (a:=d) (b:=z) S hw qz w0 (.inr lz) S (B tw S) tz hb9;have gp':=o;rw[ez,W]at gp';let ⟨ep,y2,ey2,hY2⟩:=amT P hYp gp';have mP:=o.mo;have p0:p≠[]:=λe=>by rw[e,tH]at mP;exact mP.ne J
   have dP:lx p∣pF id v:=dvd_trans (W▸o.l) dW;have tp:=hD _ mP dP;have lp:=bX.2 p0;have ew2:lx d=pF (kW<|n+1) v*lx p:=by rw[W,ep,BU,mul_comm]
   have T:∀x:V O,G x<=9->(f+1)*(G x+1-G p)<=(f+1)*9:=λx Y=>jw _ S
   have c4:=Ov (s:=U) (t:=f) (u:=f) (a:=d) (b:=p) S H p0 S (by have:=fV o.l<|Ji hw w0;rw[dH H,dH hw]at this;omega) tw tp (by have:=T d S;omega) S;have Oz:lx (eX d p)=pF (kW<|n+1) v:=qN mP.ne<|(rZ hw H p0 o.l).symm.trans ew2;have lpw:G p<=G d:=by have:=fV o.l<|Ji hw w0;rw[dH H,dH hw]at this;exact this
   have c5:=Ov (s:=U) (t:=u+f+5) (u:=f) (a:=z) (b:=p) S H p0 S S tz tp (by have:=T z S;omega) S;have ezq:lx (eX z p)=y2:=qN mP.ne ((rZ qz H p0 o.r).symm.trans<|by rw[ez,W];exact ey2);have UW:Ht (2^((11*f+15)*(n+1))) (lx<|eX z p):=by refine B (E6 H p0 tz tp).1 ?_;have:=T z S;omega
   have UX:G (eX z p)<G (eX d p):=by have e1:=dE (oZ (c:=kW<|n+1) P.mo).ne mP.ne;rw[<-ew2,dH hw,<-Oz,dH<|wI d p,dH H]at e1;have e2:=On z p;omega
   let ⟨g,o1,o2,o3⟩:=ad2 hs ht GW P hF hD k (n+1) (eX d p) (eX z p) (if 1<G p then i++[(p,(n:Z))]else i) S S S (wI d p) (wI z p) Oz (by rw[ezq];exact hY2) UW UX;have e9:i++((if 1<G p then[(p,(n:Z))]else[])++g)=(if 1<G p then i++[(p,(n:Z))]else i)++g:=by split<;>simp
   refine⟨(if 1<G p then[(p,(n:Z))]else[])++g,by rw[Cd,s hc];exact⟨C,z,p,eX d p,eX z p,c1,c2,c3,c4,c5,by rw[e9];exact o1⟩,?_,?_⟩
   .rw[fe,o2,mI,<-ep,dH H];congr 1;split<;>rfl
   .intro q hq;rcases b8.1 hq with R|R
    .split at R
     .rw[iu.1 R];exact H
     .simp at R
    .exact o3 q R
  .refine⟨[],by rw[Cd,M hc];exact iW _,?_,ax⟩;rw[Ow];rfl;intro x Y;by_cases e:n<la
   .have hw1:G d=1:=by have:=bX.2 w0;omega
    have e1:pF (kW n) v=1:=mW.unit (by rw[<-W,dH hw];exact hw1);refine Iu λhle=>?_
    have:=BS (c:=kW n) Y (by rw[zR.2 hle];omega);rw[e1]at this;exact(P.fq x Y).uU this
   .have:=Oy P Y;omega
def aqt{t}(ht:t<=1500){a}(m:bY a)(f:a≠[])(la:G a<=9)(hA:Ht (2^t) (lx a)){v}(R:FL v)(n:pF id v=lx (cV a))(hD:∀so,Mo so->so∣pF id v->Ht (2^t) so):
  ∃E,lK j 134 [N .q a] 80 UT E/\E.map (λp=>(lx p.1,p.2))=mI v (G a) 1/\∀p∈E,bY p.1:=by
 have hl:=bX.2 f
 have hm:=Oq m f
 have lm:=Jj m
 obtain⟨s,hs⟩:∃s,s=100000000:=⟨_,J⟩
 have B:∀{a b:I}{W:Rx},Ht (2^a) W->a<=b->Ht (2^b) W:=λh Ar=>h.le<|fG A Ar
 have tF:Ht (2^t) (lx<|cV a):=by rw[<-n];exact hD _ (n▸hm)<|dvd_refl _
 have F:=hA.qs (s:=s) (m7 S)<|G a-1
 have c1:=ad0 (s:=s) (t:=t) (a:=a) S S hA S
 have T:lx (dV<|kC a)=bp (lx a):=by rw[vp,UM]
 have qd:=sn<|kC a
 have w:∀{W:Rx},sz W<=9->Ht (2^t) W->Ht (2^(t+4)) (bp W):=λhz h=>(h.bp hz S).le US
 have td:Ht (2^(t+4)) (lx<|dV<|kC a):=by rw[T];exact w (by rw[dH m];omega) hA
 have ld:G (dV<|kC a)<G a:=by have:=Bz (Q:=lx a);rw[<-T,dH qd,dH m]at this;omega
 generalize dV (kC a)=d at*
 have UU:3^G a<=19683:=cQ (fG A (S:G a<=9)) A
 let ⟨g,c2,qg,gg⟩:=adZ (s:=s) (t:=t+4) (a:=a) (b:=d) S m qd f (.inr ld) S (B hA S) td (by refine cQ (jw _ UU) ?_;omega)
 obtain⟨c,Z⟩:∃c,c=(Y a (G a-1) 0)⁻¹ :=⟨_,J⟩
 have UY:c≠0:=by rw[Z];exact q9<|m.ne f
 have eM:lx (cV a)=K c*lx a:=by rw[z' f,Z]
 have gF:zQ (lx g) (pF id v) (bp<|pF id v):=by let ⟨g1,g2,g3,U,sf,g4⟩:=gg;rw[n,eM,By];rw[T]at g3 g4;refine⟨g1,dz g2 _,dz g3 _,U*K c⁻¹,sf*K c⁻¹,?_⟩;have e1:U*K c⁻¹ *(K c*lx a)+sf*K c⁻¹ *(K c*bp (lx a))=(K c⁻¹ *K c)*(U*lx a)+(K c⁻¹ *K c)*(sf*bp (lx a)):=eT;rw[e1,ov UY,one_mul,one_mul];exact g4
 let ⟨eg,zzY,eY,hY⟩:=abv R gF
 have X:=gg.mo
 have o:g≠[]:=λe=>by rw[e,tH]at X;exact X.ne J
 have tg:=hD _ X gF.l
 have lg:=bX.2 o
 have c3:af j 199 [N .q a] (N .q<|cV a):=by have:=acT (s:=s) S S a f S (m.ne f) (λi=>hA.qs (m7 S) i)<|F.inv<|m.ne f;rw[cV,M f];exact this
 have H:∀x:V O,G x<=9->(t+1)*(G x+1-G g)<=(t+1)*9:=λx hx=>jw _ S
 have lga:G g<=G (cV a):=by have:=fV gF.l (oZ R.mo).ne;rw[n,dH qg,dH<|oC a]at this;exact this
 have c4:=Ov (s:=s) (t:=t) (u:=t) (a:=cV a) (b:=g) S qg o S S tF tg (by have:=H (cV a) S;omega) S
 have c5:=acS (s:=s) S a f S (m.ne f) F
 rw[<-Z]at c5
 have hcq:QS s c:=by rw[Z];exact F.inv<|m.ne f
 have c6:=Uf (s:=s) S S c d S hcq<|λi=>td.qs (m7 S) i
 have P:lx (dV<|n5 c d)=bp (pF id v):=by rw[vp,adU,T,n,eM,By]
 have qsd:=sn<|n5 c d
 have lsd:G (dV<|n5 c d)<=G d:=by refine cQ (z9 _) ?_;rw[n5,cL];exact a8 _
 generalize dV (n5 c d)=k at*
 have y:Ht (2^(t+4)) (lx k):=by rw[P,n];exact w (by rw[dH (oC a)];omega) tF
 have c7:=Ov (s:=s) (t:=t+4) (u:=t) (a:=k) (b:=g) S qg o S S y tg (by have:=H k S;omega) S
 have z:lx (eX (cV a) g)=pF (kW 1) v:=qN X.ne ((rZ (oC a) qg o<|n▸gF.l).symm.trans<|by rw[<-n,Iw R,eg])
 have eyq:lx (eX k g)=zzY:=qN X.ne ((rZ qsd qg o<|by rw[P];exact gF.r).symm.trans<|by rw[P];exact eY)
 have UW:Ht (2^((11*t+15)*1)) (lx<|eX k g):=by refine B (E6 qg o y tg).1 ?_;have:=H k S;omega
 have UX:G (eX k g)<G (eX (cV a) g):=by have e1:=dE (oZ (c:=kW 1) R.mo).ne X.ne;rw[eg,<-Iw R,<-eg,n,dH<|oC a,<-z,dH<|wI _ g,dH qg]at e1;have e2:=On k g;omega
 let ⟨C,o1,o2,o3⟩:=ad2 (la:=G a) hs ht la R (by rw[n,dH<|oC a,lm]) hD (G a) 1 (eX (cV a) g) (eX k g) [] S S S (wI _ g) (wI k g) z (by rw[eyq];exact hY) UW UX
 exact⟨C,aqe a d g (cV a) (eX (cV a) g) k (eX k g) c S c1 c2 c3 c4 c5 c6 c7 (G a) C o1,o2,o3⟩
end Go.El
namespace Go.El
open Go Go.Proofs
namespace Rx
def OA(a:O)(m:I):∀n:I,a^(m+n)=a^m*a^n
 |0=>by rw[jE,yp,zN]
 |n+1=>by rw[<-qv,yq,OA a m n,yq,qV]
def UZ(a b:O):∀n:I,(a*b)^n=a^n*b^n
 |0=>by rw[yp,yp,yp,zN]
 |n+1=>by rw[yq,yq,yq,UZ a b n];grind
def U0:∀n:I,(1:O)^n=1
 |0=>yp _
 |n+1=>by rw[yq,U0 n,zN]
def E7{b:O}(c:b≠0):∀n:I,b^n≠0
 |0=>by rw[yp];decide
 |n+1=>λa=>by
  rw[yq]at a;rcases zM.1 a with a|a
  .exact E7 c n a
  .exact c a
def ij(t:O)(a:Rx):Rx:=⟨λi=>t^i*a i,by let ⟨n,b⟩:=a.2;exact⟨n,λi c=>by show t^i*a.v i=0;rw[b i c,jA]⟩⟩
def ph a b i:ij a b i=a^i*b i:=rfl
def OB a b B:ij a (b*B)=ij a b*ij a B:=ext λn=>by
 rw[ph,gG,gG,<-M6];refine u5 λi c=>?_
 rw[ph,ph];have:a^n=a^i*a^(n-i):=by rw[<-OA,(S:i+(n-i)=n)]
 rw[this];grind
def aqy a b B:ij a (b+B)=ij a b+ij a B:=ext λn=>by rw[ph,eR,eR,ph,ph,Rat.mul_add]
def aqz a c:ij a (K c)=K c:=ext λn=>by
 rw[ph,sb];split
 .rename_i h;rw[h,yp,wz]
 .rw[jA]
def ad6 a:ij a 1=1:=aqz a 1
def ad7 a b c:ij a (ij b c)=ij (a*b) c:=ext λn=>by rw[ph,ph,ph,UZ,qV]
def ad8 a:ij 1 a=a:=ext λn=>by rw[ph,U0,wz]
def aqA a b:bp (ij a b)=K a*ij a (bp b):=ext λn=>by rw[qW,ph,iQ,ph,qW,yq];grind
def OC{a}(d:a≠0) c:sz (ij a c)=sz c:=by
 have b:∀(s:O)(B:Rx),sz (ij s B)<=sz B:=λs B=>u6 λi f=>by rw[ph,nV f,jA]
 have k:=b a c;have g:=b a⁻¹ (ij a c);rw[ad7,pW a d,ad8]at g;omega
def bw.ij{t}(a:t≠0){b}(c:bw b):bw (ij t b):=by
 refine⟨by rw[OC a];exact c.1,λX Y e=>?_⟩;have d:b=Rx.ij t⁻¹ X*Rx.ij t⁻¹ Y:=by rw[<-OB,<-e,ad7,pW t a,ad8]
 have:=c.2 _ _ d;rwa[OC (q9 a),OC<|q9 a]at this
def Co.ij{t}{a B}(b:Co a B):Co (ij t a) (Rx.ij t B):=by let ⟨U,V,e⟩:=b;refine⟨Rx.ij t U,Rx.ij t V,?_⟩;rw[<-OB,<-OB,<-aqy,e,ad6]
noncomputable def mS(a:O)(b:Rx):Rx:=K (a^(sz b-1))*ij a⁻¹ b
def ad9{b}(c:b≠0) a:sz (mS b a)=sz a:=by
 by_cases h:a=0
 .subst h;have e:ij b⁻¹ 0=(0:Rx):=ext λi=>by rw[ph,l0,jA]
  rw[mS,e,mul_zero]
 .have d:=OC (q9 c) a;have f:ij b⁻¹ a≠0:=λe=>by rw[e,kd]at d;have:=dX h;omega
  have g:=dE (ts<|E7 c<|sz a-1) f;rw[tA (E7 c _),d]at g;show sz (K _*_)=_;omega
def Jm{a:O}(b:a≠0)(n:I):a^n*a⁻¹ ^n=1:=by rw[<-UZ,Rat.mul_inv_cancel a b,U0]
def Jn{a}b i:mS a b i=a^(sz b-1)*(a⁻¹ ^i*b i):=by rw[mS,iQ,ph]
def aqB{a}(b:a≠0){c}(d:Mo c):Mo (mS a c):=by rw[Mo,ad9 b,Jn,<-qV,Jm b,wz];exact d
def aqC a:mS a 1=1:=by rw[mS,np,ad6,mul_one];show K (a^0)=1;rw[yp,l4]
def aqD{b}{a B}(c:a≠0)(d:B≠0):mS b (a*B)=mS b a*mS b B:=by have h:=dE c d;have f:=dX c;have g:=dX d;rw[mS,mS,mS,OB,(S:sz (a*B)-1=(sz a-1)+(sz B-1)),OA,eS];ac_rfl
def aqE{a}(b:a≠0) c:mS a⁻¹ (mS a c)=c:=ext λi=>by rw[Jn,Jn,ad9 b,Rat.inv_inv];have d:=Jm b<|sz c-1;have f:=Jm b i;grind
def aqF{a}(b:a≠0){c}(d:bw c):bw (mS a c):=bw.smul (d.ij<|q9 b)<|E7 b _
def aqG{a}(c:a≠0){b}(d:Co b (bp b)):Co (mS a b) (bp<|mS a b):=by have f:=E7 c<|sz b-1;have g:=q9 c;let ⟨U,V,e⟩:=d.ij (t:=a⁻¹);refine⟨K (a^(sz b-1))⁻¹ *U,K (a^(sz b-1))⁻¹ *(K (a⁻¹)⁻¹ *V),?_⟩;rw[mS,By,aqA,<-e];have i:=ov f;have k:=ov g;have l:K (a^(sz b-1))⁻¹ *U*(K (a^(sz b-1))*ij a⁻¹ b)=(K (a^(sz b-1))⁻¹ *K (a^(sz b-1)))*(U*ij a⁻¹ b):=eT;have m:K (a^(sz b-1))⁻¹ *(K (a⁻¹)⁻¹ *V)*(K (a^(sz b-1))*(K a⁻¹ *ij a⁻¹ (bp b)))=(K (a^(sz b-1))⁻¹ *K (a^(sz b-1)))*((K (a⁻¹)⁻¹ *K a⁻¹)*(V*ij a⁻¹ (bp b))):=eT;rw[l,m,i,k,one_mul,one_mul,one_mul]
end Rx
open Rx
def fk(a:V O):I->I
 |0=>1
 |i+1=>fk a i*((Y a i 0).den/lZ (fk a i) (Y a i 0).den)
def cj(a:V O):I:=fk a<|G a
def dJ(a:V O):V Z:=(be<|G a).map λk=>(Y a k 0).num*((cj a:I):Z)^(G a-1-k)/((Y a k 0).den:Z)
def gX(c:I)(g:V Z):V O:=(be<|G g).map λk=>iE (Y g k 0)<|(c:Z)^(G g-1-k)
noncomputable def wJ(a:V O):V (V O):=(tV<|dJ a).map<|gX<|cj a
noncomputable def n9:V (V O)->Rx
 |[]=>1
 |a::l=>lx a*n9 l
def U1 a i:fk a (i+1)=Nat.lcm (fk a i) (Y a i 0).den:=by rw[fk,Nat.lcm,Nat.mul_div_assoc _<|LL _ _]
def E8(a:V O):∀i,∀b,b<i->(Y a b 0).den∣fk a i
 |0,_,c=>by omega
 |i+1,b,c=>by
  rw[U1];by_cases d:b=i
  .subst d;exact Nat.dvd_lcm_right _ _
  .exact ED (E8 a i b S)<|Nat.dvd_lcm_left _ _
def U2(a:V O){b:I}(c:∀d,(Y a d 0).den∣b):∀i,fk a i∣b
 |0=>Nat.one_dvd _
 |i+1=>by rw[U1];exact Nat.lcm_dvd (U2 a c i)<|c i
def Ce(a:V O):∀i,0<fk a i
 |0=>Oj
 |i+1=>by rw[U1];exact Nat.lcm_pos (Ce a i) (Y a i 0).den_pos
def Aa a:G (dJ a)=G a:=by simp[dJ]
def OD a{k}(b:k<G a):Y (dJ a) k 0=(Y a k 0).num*((cj a:I):Z)^(G a-1-k)/((Y a k 0).den:Z):=by unfold dJ;rw[aF,gj,jW b];rfl
def OE r{D}(a:(r.den:Z)∣D):((r.num*D/(r.den:Z):Z):O)=(D:O)*r:=by
 obtain⟨e,rfl⟩:=a;have b:(r.den:Z)≠0:=by have:=r.den_pos;omega
 have c:r.num*((r.den:Z)*e)/(r.den:Z)=r.num*e:=by rw[(eT:r.num*((r.den:Z)*e)=(r.num*e)*(r.den:Z)),Int.mul_ediv_cancel _ b]
 rw[c,iF,iF,<-IB r];have:(((r.den:I):Z):O)=((r.den:I):O):=rfl;rw[this];grind
structure jC(a:V O):Prop where
 one:a.getD (a.length-1) 0=1
 l2:2<=a.length
 l9:a.length<=9
 co:Co (lx a) (bp<|lx a)
 aB:∀i,aw 6 ((dJ a).getD i 0)
section
variable{a:V O}
def Jo a:((cj a:I):O)≠0:=x9<|Ti.1<|Ce a _
def jC.can(b:jC a):bY a:= .inr (by rw[b.one];decide)
def jC.sz(b:jC a):Rx.sz (lx a)=G a:=dH b.can
def U3(c:I):∀n:I,(((c:Z)^n:Z):O)=((c:I):O)^n
 |0=>by rw[oQ,yp];rfl
 |n+1=>by rw[dK,iF,U3 c n,yq];rfl
def ad'{b:O}(c:b≠0){m k:I}(d:k<=m):b^m*b⁻¹ ^k=b^(m-k):=by
 have e:b^m=b^(m-k)*b^k:=by rw[<-OA,(S:m-k+k=m)]
 rw[e,qV,Jm c,zN]
def jC.zx(b:jC a):Rx.zx (dJ a)=mS ((cj a:I):O) (lx a):=Rx.ext λi=>by
 rw[jk,Jn,b.sz,kQ];by_cases c:i<G a
 .rw[OD a c,OE,U3,<-qV,ad' (Jo a) S];by_cases e:i=G a-1
  .rw[e,b.one];exact Int.one_dvd _
  .have d:(Y a i 0).den∣cj a:=E8 a _ i c;have f:((Y a i 0).den:Z)∣((cj a:I):Z):=xR.2 d;obtain⟨j,g⟩:∃j,G a-1-i=j+1:=⟨G a-1-i-1,S⟩;rw[g,dK];exact Ey f<|B1 _ _
 .rw[cF _ (by rw[Aa];omega),kv a S,jA,jA];rfl
def jC.aG(b:jC a):aG (dJ a):=by have c:=b.l2;refine⟨λe=>by have:=Aa a;rw[e]at this;simp at this;omega,?_⟩;rw[Aa,OD a S,b.one,gx,oQ];rfl
def jC.aea(b:jC a){l}(f:l.Nodup)(g:∀p∈l,aX p)(k:yc<qX l):∃p∈l,Fx.Co (Fx.fx (dJ a):Fx (p:I)) (Fx.bp<|Fx.fx<|dJ a):=by
 have r:=b.l2;have v:=b.l9;obtain⟨n,c⟩:∃n,G a=n+2:=⟨G a-2,S⟩;have d:Co (Rx.zx<|dJ a) (bp<|Rx.zx<|dJ a):=by rw[b.zx];exact aqG (Jo a) b.co
 refine aoa f g k (n:=n) (by rw[Aa];exact c) b.aG d (B:=2^192) A (λi=>?_) ?_
 .have:=b.aB i;unfold aw at this;omega
 .have m:2*((2*n+2)*((n+1)*2^192))<=2^200:=by have x:(2*n+2)*(n+1)<=16*8:=ly S S;rw[<-xL (2*n+2)];omega
  refine cQ (v5 m _) ?_;refine cQ (fG A (S:2*n+1<=15)) ?_;decide+kernel
def jC.mf(b:jC a):m6 (dJ a):=⟨b.aG,by rw[Aa];exact b.l2,by rw[Aa];exact b.l9,b.aB,b.aea anf (λ_ c=>Jg c) anh⟩
def OF c g:G (gX c g)=G g:=by simp[gX]
def U4 c g{k}(b:k<G g):Y (gX c g) k 0=iE (Y g k 0) ((c:Z)^(G g-1-k)):=by unfold gX;rw[aF,gj,jW b];rfl
def aqH b{c:I}(g:0<c) n:iE b ((c:Z)^n)=((c:I):O)⁻¹ ^n*(b:O):=by
 have d:((c:I):O)≠0:=x9 S;rw[Th,U3,BW];have i:=Jm d n;have f:(((c:I):O)^n)⁻¹ =((c:I):O)⁻¹ ^n:=by have k:=pW _<|E7 d n;grind
 rw[f,Ip]
def aeb{c}(b:0<c){g}(d:Go.El.aG g):lx (gX c g)=mS ((c:I):O)⁻¹ (Rx.zx g):=Rx.ext λi=>by
 have f:((c:I):O)≠0:=x9 S;rw[Jn,jZ<|aG.can d,jk,kQ];by_cases k:i<G g
 .rw[U4 c g k,aqH _ b,<-qV,ad' (q9 f) S]
 .rw[kv _ (by rw[OF];omega),cF g S];show(0:O)=_*(_*((0:Z):O));rw[show((0:Z):O)=0 from J,jA,jA]
def aec{c}{g}(b:Go.El.aG g):Y (gX c g) (G (gX c g)-1) 0=1:=by have:=bX.2 b.1;rw[OF,U4 c g S,b.2,gx,oQ];rfl
def aed{c:I}(i:0<c):∀{b:V (V Z)},(∀g∈b,Go.El.aG g)->n9 (b.map<|gX c)=mS ((c:I):O)⁻¹ (o8 b)
 |[],_=>(aqC _).symm
 |g::b,d=>by
  have k:o8 b≠0:=by
   have f:∀{b:V (V Z)},(∀g∈b,Go.El.aG g)->o8 b≠0:=by
    intro b;induction b with
    |nil=>intro _;exact nn
    |cons g b l=>intro d;exact nQ (mZ<|d g ax).ne<|l λx hx=>d x iB
   exact f λx hx=>d x iB
  rw[gZ,n9,o8,aqD (mZ<|d g ax).ne k,aeb i<|d g ax,aed i λx hx=>d x iB]
def jC.unG(l:jC a){c}(i:∀r∈c,Go.El.aG r/\Rx.bw (Rx.zx r))(m:Rx.o8 c=Rx.zx (dJ a)):(∀b∈c.map (gX<|cj a),Y b (G b-1) 0=1/\bY b/\Mo (lx b)/\bw (lx b))/\n9 (c.map<|gX<|cj a)=lx a:=by
 have k:0<cj a:=Ce a _;refine⟨λb n=>?_,?_⟩
 .obtain⟨g,f,rfl⟩:=kY.1 n;let ⟨d,g2⟩:=i g f;rw[aeb k d];exact⟨aec d,.inr (by rw[aec d];decide),aqB (q9<|Jo a)<|mZ d,aqF (q9<|Jo a) g2⟩
 .rw[aed k λg f=>(i g f).1,m,l.zx,aqE (Jo a)]
def aqI(c:jC a):(∀b∈wJ a,Y b (G b-1) 0=1/\bY b/\Mo (lx b)/\bw (lx b))/\n9 (wJ a)=lx a:=c.unG (UH c.mf).1 (UH c.mf).2
end
end Go.El
namespace Go.El
open Go Go.Proofs
def U5(m:I):Bool:=Nat.beq (m%2) 0||(!(Nat.beq (uM 2 (m-1) m) 1)||iA.any (Nat.beq m))
def Jp:I->I->Bool
 |0,l=>U5<|1073741825+l
 |d+1,l=>Jp d (2*l)&&Jp d (2*l+1)
def U6:∀(d l:I),Jp d l=ae->∀x,x<2^d->U5 (1073741825+(2^d*l+x))=ae
 |0,l,a,x,hx=>by
  have:x=0:=by simpa using hx
  subst this;rw[oo,iL,jE];exact a
 |d+1,l,a,x,hx=>by
  rw[Jp,eG]at a;rw[fy]at hx⊢;by_cases e:x<2^d
  .have:=U6 d _ a.1 x e;rwa[(eT:2^d*(2*l)=2^d*2*l)]at this
  .have:=U6 d _ a.2 (x-2^d) S;rwa[show 2^d*(2*l+1)+(x-2^d)=2^d*2*l+x by rw[xQ,(eT:2^d*(2*l)=2^d*2*l)];omega]at this
def aqJ:Jp 11 0=ae:=j8
def aqK{m}(d:1073741824<m)(f:m<1073743872)(b:m∉iA):af j 60 [cU m] (cB ah):=by
 have a:=U6 11 0 aqJ (m-1073741825) (by show _<2048;omega);rw[Et,dU,(S:1073741825+(m-1073741825)=m),U5,vI,vI]at a;refine am7 m S S ?_;rcases a with a|a|a
 .exact .inl<|y8 a
 .refine .inr λe=>?_
  rw[LO 2 (m-1) m S S,e]at a;cases a
 .let ⟨y,c,e⟩:=List.any_eq_true.1 a;exact absurd (by rw[y8 e];exact c) b
def aqL{n p}(g:1073741824<=n)(c:p∈iA)(a:n<p)(b:∀m,n<m->m<p->m∉iA):af j 256 [cU n] (.t [(ah,[.I .u64 p]),(ah,[.I .i64 0])]):=by let ⟨i,k⟩:=wD c;exact am6 n p a S (λm d f=>aqK S S<|b m d f)<|Hh p (abL c) S
open Fx
def aqM:((List.zip iA<|iA.tail).all λx=>Nat.blt x.1 x.2)=ae:=j8
def aef:∀{l:V I},((List.zip l l.tail).all λx=>Nat.blt x.1 x.2)=ae->l.Pairwise (·<·)
 |[],_=>wu
 |[x],_=>Ib _ _
 |x::c::l,a=>by
  simp only[List.tail_cons,List.zip_cons_cons,List.all_cons,eG]at a;have d:x<c:=by have:=a.1;unfold Nat.blt at this;exact cY this
  have f:=aef (l:=c::l) a.2;refine im.2 ⟨λz b=>?_,f⟩;rcases df.1 b with rfl|b
  .exact d
  .exact Nat.lt_trans d<|(im.1 f).1 z b
def aqN:iA.Pairwise (·<·):=aef aqM
structure E9(a:V Z)(n:I)(rest:V I):Prop where
 n0:1073741824<=n
 pre:∃pre,iA=pre++rest/\(∀q∈pre,q<=n)/\∀q∈pre,nz q a=ah
 lt:∀q∈rest,n<q
 ex:∃q∈rest,nz q a=ae
def m6.pr0{a}(c:m6 a):E9 a 1073741824 iA:=by let ⟨p,_,f2,f3⟩:=c.o9;exact⟨a8 _,⟨[],J,λq b=>(by cases b),λq b=>(by cases b)⟩,λq b=>(wD b).1,⟨p,f2,f3⟩⟩
def E9.step{a}{n}{rest}(E:E9 a n rest):∃b r,rest=b::r/\b∈iA/\n<b/\(∀m,n<m->m<b->m∉iA)/\(nz b a=ae->iA.find? (nz · a)=some b)/\(nz b a=ah->E9 a b r):=by
 let ⟨P,⟨pre,h2,k,l⟩,C,⟨g,p,i⟩⟩:=E;cases rest with
 |nil=>cases p
 |cons b r=>
  have v:=aqN
  rw[h2]at v
  have c:=im.1 (tD.1 v).2.1
  have F:n<b:=C b ax
  refine⟨b,r,J,by rw[h2];simp,F,λm H K B=>?_,λf=>?_,λf=>⟨S,⟨pre++[b],by rw[h2,jR];rfl,λx d=>?_,λx d=>?_⟩,c.1,?_⟩⟩
  .rw[h2]at B;rcases b8.1 B with e|e
   .have:=k m e;omega
   .rcases df.1 e with e|e
    .omega
    .have:=c.1 m e;omega
  .rw[h2,List.find?_append,EN.2<|λx d=>by rw[l x d];decide];simp[f]
  .rcases b8.1 d with e|e
   .have:=k x e;omega
   .rw[iu.1 e];omega
  .rcases b8.1 d with e|e
   .exact l x e
   .rw[iu.1 e];exact f
  .rcases df.1 p with e|e
   .rw[e,f]at i;cases i
   .exact⟨g,e,i⟩
def OG{x a}:cX x a<=0↔x<=a:=by
 unfold cX;split
 .omega
 .split<;>omega
def cK.aeg E a c d:cK (.box E a [c,d]) (.box E a [.any,.any]):=⟨λN g W f h=>by let ⟨b,vs,rest,i,h2,k,l⟩:=h;obtain⟨v,r,rfl,_,m,n,rfl,_,p⟩:=k;exact⟨b,_,rest,i,h2,⟨v,_,J,T,m,n,J,T,p⟩,l⟩,λf h=>bS⟩
def aqP{a}(v:m6 a):af j 204 [N .z a] (N (.sl .z)<|tV a):=by
 refine aD Tryz.func204 ?_;have l2:=v.l2;have l9:=v.l9;have M:∀i,Sm (Y a i 0):=λi=>(v.aB i).sm A
 refine e J<|L<|e J<|z J (λm=>?_)<|λm=>?_
 .have m:G a=2:=by have m:((G a:Z)==2)=ae:=m;have:=eq_of_beq m;omega
  rw[adO m];refine t<|rl (.sl .z) [a] J J (o J<|bc<|bt<|atR J)
 .have m:G a≠2:=λd=>by have m:((G a:Z)==2)=ah:=m;rw[d]at m;cases m
  refine ai<|e J<|e J ?_;refine L<|q<|aK (α:=I×V I) (λs=>⟨[(0,N .z a),(3,cU s.1),(4,.c<|.P 3000000 0)],[(3000000,.box 101 0 [.any,.any])],4,[]⟩) (λs=>E9 a s.1 s.2) (λs=>G s.2) (1073741824,iA) v.pr0 (wk (aS J) ⟨⟨_,J,cK.aeg _ _ _ _⟩,T⟩) ?_;rintro⟨n,rest⟩ y;have y:E9 a n rest:=y;obtain⟨b,r,rfl,q1,q2,q3,q4,q5⟩:=y.step;have H:=Jg q1;let ⟨b1,b2⟩:=wD q1;have U:aY b (au<|md b a):=gH H.pos<|pH H.pos a;have hd:aY b (au<|dG b<|au<|md b a):=gH H.pos<|zJ S _;have B:au (md b a)=md b a:=(v.am.md S).trim;have W:G (au<|md b a)=G a:=by rw[B,oU]
  have Q:au (md b a)≠[]:=λd=>by rw[d]at W;simp at W;omega
  have O:G (au<|dG b<|au<|md b a)<=500:=by have:=kK<|dG b<|au<|md b a;rw[zI]at this;omega
  have mX:G (c8 b (au<|md b a)<|au<|dG b<|au<|md b a)<=1000000:=by let ⟨m1,m2,_⟩:=qQ H U hd Q;have h1:=fV H m2 (λd=>Q<|by rw[<-jX]at d;exact pL U (nS H.pos) d);rw[bO m1.c,bO U]at h1;omega
  refine q<|aO J J (aqL y.n0 q1 q2 q3) J ?_;refine aO J J (S4 a b S S S M) J ?_;refine t<|rc J J (aaD H _ S U.1)<|rc J J (L0 b H.hp H.le _ _ S O U hd Q)<|rc J J (tf _ b mX)<|o J ?_;refine z J (λl=>?_)<|λl=>?_
  .have l:nz b a=ae:=by have l:((G (c8 b (au<|md b a)<|au<|dG b<|au<|md b a):Z)-1==0)=ae:=l;have:=eq_of_beq l;exact jU S
   have g:=v.md q1 l;have H3:Mon b (au<|md b a):=by rw[B];exact g.f.1
   have SP:(fx (au<|md b a):Fx b)=fx a:=by rw[B];exact g.f.2.2
   have X:=aaA H _ H3 S S (by rw[SP];exact g.jN);have hLs:nv H (au<|md b a)=g.Ls:=by rw[B];rfl
   rw[hLs]at X;have BC:=S9 a 6 A S v.aB;have hbB:=v.bB;have u:aw 8 ((cO a:I):Z):=by unfold aw at*;rw[lO]at*;omega
   have e2:((cO a:I):Z)+((cO a:I):Z)=((2*cO a:I):Z):=S;have E:=zn _ _ (u.sm A)<|u.sm A;rw[e2]at E;refine jS<|Gc<|kF<|jT<|ay ?_;refine aO J J X J<|t<|rc J J BC<|o J<|t<|rc J J E<|o J<|t<|rc J J (nL b S S)<|o J ?_;let ⟨k1,k2,k3⟩:=E3 (p:=b) S<|2*cO a;let ⟨m1,m2⟩:=v.mB q1;have x:=acj<|v.UI q1 g;rw[ap']at x;have R:=ap8 (v.rn q1 g) (g.cbH k1 k2) (λd=>g.Lne<|et<|by rw[<-g.EY,d];rfl);rw[<-adP g m (q4 l)]at R;have hlf:g.lf (ig b<|2*cO a)=tM b a (λi=>g.Ls.getD i []) (G g.Ls) (ig b<|2*cO a):=rfl;rw[hlf]at R;generalize tV a=Rr at*;have GB:∀k,k<=ig b (2*cO a)->aw 9 ((b:Z)^k):=λk w=>by unfold aw at*;rw[<-ot,lO]at*;exact s8 (fG S w) m1
   generalize ig b (2*cO a)=K at*;refine L<|q<|aK (α:=I) (λk=>⟨[(0,N .z a),(3,cU b),(5,N PT<|lP b g.Ls),(6,.c<|.P 8002000 0),(7,.c<|.P 10003000 0),(8,D k)],[(8002000,.box 44 0<|av .z ((2*cO a:I):Z)),(10003000,.box 44 0<|av .z<|(b:Z)^k)],12,[]⟩) (λk=>1<=k/\k<=K) (λk=>K-k) 1 ⟨a8 _,k1⟩ (wk ⟨sR J,sR J,sR J,sR J,sR J,sE J J,T⟩ ⟨bE J J,bE J ?_,T⟩) ?_
   .refine aC (λg6=>aH.box 44 0<|av .z g6) ?_;rw[dK,oQ,j7]
   rintro k ⟨i1,i2⟩;refine L<|aO J J (G7 ((b:Z)^k) ((2*cO a:I):Z)) J<|z J (λC=>?_)<|λC=>?_
   .have C:b^k<=2*cO a:=by have C:cX ((b:Z)^k) ((2*cO a:I):Z)<=0:=az C;rw[OG,<-ot]at C;omega
    have w:k<K:=by
     rcases oG k K with d|d
     .exact d
     .have:k=K:=by omega
      subst this;omega
    have F:=tb ((b:Z)^k) b ((GB k i2).sm A)<|(aw.one (a:=(b:Z)) S).sm A;rw[<-dK]at F;refine bN<|ay<|q<|t<|rc J J (nL b S S)<|rc J J F<|o J<|rt J<|dy<|aA (k+1) ⟨S,w⟩ (S:K-(k+1)<K-k)<|wk ⟨sR J,sR J,sR J,sR J,sR J,sE J J,T⟩ ⟨bE J J,bE J J,T⟩
   .have C:2*cO a<b^k:=by have C:¬cX ((b:Z)^k) ((2*cO a:I):Z)<=0:=aL C;rw[OG,<-ot]at C;omega
    have w:k=K:=by
     rcases oG k K with d|d
     .have:=k3 k i1 d;omega
     .omega
    subst w;refine jS<|lJ<|kF<|jT<|ay<|t<|rc J J x<|rc J J R<|o J<|bc<|g8 a6 J<|a7.refl _
  .have l:nz b a=ah:=by
    have l:((G (c8 b (au<|md b a)<|au<|dG b<|au<|md b a):Z)-1==0)=ah:=l;refine iX λd=>?_
    rw[d]at l;cases l
   exact bN<|dy<|aA (b,r) (q5 l) (ax:G r<G (b::r))<|wk (aS J) ⟨⟨_,J,cK.aeg _ _ _ _⟩,T⟩
end Go.El
namespace Go.El
open Go Go.Proofs
def Jq(a:V O)(b:∀i,QS 20 (Y a i 0)):∀i,aw (20*i+1) ((fk a i:I):Z)
 |0=>aw.one (a:=1) A
 |i+1=>by have c:=Jq a b i;have f:=(b i).d;have k:fk a (i+1)<=fk a i*(Y a i 0).den:=jw _<|A8 _ _;have g:=c.mul f;rw[<-fF]at g;unfold aw at*;rw[lO]at*;rw[(S:20*(i+1)+1=20*i+1+20)];omega
def nA{a:Type}(f:I->a)(d:a)(n b:I):V a:=(be n).map λk=>if n<=k+b then f k else d
def U7{a:Type}(f:I->a) d n b:G (nA f d n b)=n:=by simp[nA]
def U8{a:Type}(f:I->a) d n:List.replicate n d=nA f d n 0:=by
 refine lq (by simp[nA]) λi c b=>?_
 simp[nA]at b⊢;omega
def OH{c:Type}(f:I->c) d{n a}(k:a<n):(nA f d n a).set (n-1-a) (f<|n-1-a)=nA f d n (a+1):=by
 refine lq (by simp[nA]) λi l g=>?_
 rw[Ax];simp only[nA,og,uA];simp only[nA,cL,uL]at g;by_cases e:n-1-a=i
 .subst e;rw[s J,s S]
 .rw[M e];by_cases b:n<=i+a
  .rw[s b,s S]
  .rw[M b,M S]
def U9{a:Type}(f:I->a) d n:nA f d n n=(be n).map f:=by
 refine lq (by simp[nA]) λi b c=>?_
 simp[nA]
def OI{g:V Z}:∀{l:V (V Z)},g∈l->Rx.zx g∣Rx.o8 l
 |f::l,a=>by
  rw[Rx.o8];rcases df.1 a with rfl|a
  .exact Rx.dvd_mul_right _ _
  .exact Rx.dz (OI a) _
def Va:∀{l:V (V Z)},(∀g∈l,Rx.bw (Rx.zx g))->Rx.o8 l≠0/\G l+1<=Rx.sz (Rx.o8 l)
 |[],_=>⟨Rx.nn,by rw[Rx.o8,Rx.np];exact a8 _⟩
 |g::l,b=>by
  let ⟨i1,i2⟩:=Va (l:=l) λx hx=>b x iB
  have a:=b g ax;have:=Rx.dE a.ne i1;have:=a.1;rw[Rx.o8];exact⟨Rx.nQ a.ne i1,Ab⟩
def aeh{a}(c:m6 a):G (tV a)<=8/\∀g∈tV a,aG g/\G g<=9/\∀i,aw 8 (Y g i 0):=by
 let ⟨f,h2⟩:=UH c;have l:=Rx.jZ c.am.can;have m:=c.l9;refine⟨?_,λg b=>⟨(f g b).1,?_,λi=>?_⟩⟩
 .have:=(Va λg b=>(f g b).2).2;rw[h2]at this;omega
 .have d:=OI b;rw[h2]at d;have:=Rx.fV d (Rx.mZ c.am).ne;rw[Rx.jZ (f g b).1.can]at this;omega
 .have d:=OI b;rw[h2]at d;have n:=Og c.am (f g b).1 d i;have k:=c.bB;unfold aw at*;rw[lO]at k;omega
def aqS{a}(bW:jC a)(Q:∀i,QS 20 (Y a i 0)):af Tryz.prog 135 [N .q a] (N (.sl .q)<|wJ a):=by
 refine aD Tryz.func135 ?_;have l2:=bW.l2;have l9:=bW.l9;refine e J<|aO J J (nL 1 A A) J<|L<|e J ?_;refine q<|aK (α:=I) (λi=>⟨[(0,N .q a),(3,.c<|.P 1001000 0),(20,N .q a),(21,D<|G a),(22,D i)],[(1001000,.box 44 0<|av .z ((fk a i:I):Z))],3,[]⟩) (λi=>i<=G a) (λi=>G a-i) 0 (aW _) (wk (aS J) ⟨bE J J,T⟩) ?_;intro i hi;refine e J<|L<|z J (λh1=>?_)<|λh1=>?_
 .have h1:i<G a:=by have h1:(i:Z)<(G a:Z):=az h1;omega
  have K:ad ((i:Z))=i:=aV i;have R:=Jq a Q i;have hd:=(Q i).d;have B:0<(Y a i 0).den:=(Y a i 0).den_pos;have M:=aa5 ((fk a i:I):Z) ((Y a (ad<|(i:Z)) 0).den:Z) (R.sm S)<|(Q _).d.sm S;rw[K]at M;have V:fh ((fk a i:I):Z) ((Y a i 0).den:Z)=lZ (fk a i) (Y a i 0).den:=rfl;rw[V]at M;have hgp:0<lZ (fk a i) (Y a i 0).den:=Nat.gcd_pos_of_pos_right _ B;have p:=v8 ((Y a i 0).den:Z) ((lZ (fk a i) (Y a i 0).den:I):Z) S (hd.sm S) (by
   have h3:lZ (fk a i) (Y a i 0).den<=(Y a i 0).den:=pG B<|LL _ _;have h4:aw 20 ((lZ (fk a i) (Y a i 0).den:I):Z):=by unfold aw at*;rw[lO]at*;omega
   exact h4.sm S)
  have r:=tb ((fk a i:I):Z) (((Y a i 0).den:Z)/((lZ (fk a i) (Y a i 0).den:I):Z)) (R.sm S)<|(hd.ediv S S).sm S;have hen:((fk a i:I):Z)*(((Y a i 0).den:Z)/((lZ (fk a i) (Y a i 0).den:I):Z))=((fk a (i+1):I):Z):=by rw[fk,fF,vX]
  rw[hen]at r;refine ai<|L<|q<|e J ?_ (hp:=ak);rw[K];refine t<|rc J J M<|rc J J p<|o J ?_;refine bs<|rc J J r<|o J<|aT<|rt J (hp:=ak)<|aA (i+1) h1 ka<|wk (aS J) ⟨bE J J,T⟩
 .have h1:i=G a:=by have h1:¬(i:Z)<(G a:Z):=aL h1;omega
  subst h1;refine aN<|ay ?_;have R:=Jq a Q<|G a;have b:aw 181 ((cj a:I):Z):=R.le S;have Gs:0<cj a:=Ce a _;have U:fk a (G a)=cj a:=rfl;rw[U];clear R U hi;generalize hn:G a-1=n;have W:∀k,k<=10->aw 2000 (((cj a:I):Z)^k):=λk hk=>(b.pow k).le (by have:=jw 181 hk;omega)
  obtain⟨F,hF⟩:∃F:I->Z,F=λk=>(Y a k 0).num*((cj a:I):Z)^(G a-1-k)/((Y a k 0).den:Z):=⟨_,J⟩
  have v:nA F 0 (G a) (G a)=dJ a:=by rw[U9,hF];rfl
  refine e J<|t<|rm .z (G a) J J J J J J xr ?_ ?_ ?_<|o J ?_
  .show(G a:Z)-1+1=(G a:Z);omega
  .show G a*32<=_;omega
  .show G a*2<=_;omega
  refine aO J J (nL 1 A A) J<|L<|e J ?_;refine q<|aK (α:=I) (λj=>⟨[(0,N .q a),(3,.c<|.P 1001000 0),(10,.c<|.X 5002000),(11,.c<|.P 6001000 0),(12,D<|(n:Z)-j)],[(1001000,.box 44 0<|av .z ((cj a:I):Z)),(5002000,.vec 44 .z<|nA F 0 (G a) j),(6001000,.box 44 0<|av .z<|((cj a:I):Z)^j)],8,[]⟩) (λj=>j<=G a) (λj=>G a-j) 0 (aW _) (wk ⟨sR J,sR J,sR J,sR J,sE J ?_,T⟩ ⟨bR J,bE J ?_,bE J J,T⟩) ?_
  .exact aC D S
  .rw[U8]
  intro j hj;refine L<|e J<|z J (λh1=>?_)<|λh1=>?_
  .have h1:j<G a:=by have h1:(n:Z)-(j:Z)>=0:=az h1;omega
   have K:ad ((n:Z)-(j:Z))=G a-1-j:=S;have ej:G a-1-(G a-1-j)=j:=S;have f:=W j S;have C:=Q<|ad<|(n:Z)-(j:Z);have r:=tb (Y a (ad<|(n:Z)-(j:Z)) 0).num (((cj a:I):Z)^j) (C.n.sm S)<|f.sm S;have B:0<(Y a (ad<|(n:Z)-(j:Z)) 0).den:=(Y a (ad<|(n:Z)-(j:Z)) 0).den_pos;have p:=v8 ((Y a (ad<|(n:Z)-(j:Z)) 0).num*((cj a:I):Z)^j) ((Y a (ad<|(n:Z)-(j:Z)) 0).den:Z) S ((C.n.mul f).sm S)<|C.d.sm S;have E:F (ad<|(n:Z)-(j:Z))=(Y a (ad<|(n:Z)-(j:Z)) 0).num*((cj a:I):Z)^j/((Y a (ad<|(n:Z)-(j:Z)) 0).den:Z):=by rw[hF];show _*_^(G a-1-ad ((n:Z)-(j:Z)))/_=_;rw[(S:G a-1-ad ((n:Z)-(j:Z))=j)]
   rw[<-E]at p;have l:=tb (((cj a:I):Z)^j) ((cj a:I):Z) (f.sm S)<|b.sm S;rw[<-dK]at l;have m:=U7 F 0 (G a) j;refine ai<|L<|q<|t ?_;refine rc J J r ?_ (hp:=ak);refine rc J J p ?_ (hp:=ak);refine jx (T:= .z) (F<|ad<|(n:Z)-(j:Z)) J J J J J ?_ (o J ?_) (hp:=?_)
   .rw[m];omega
   .refine bs (rc J J l<|o J<|aT<|rt J<|aA (j+1) h1 (S:G a-(j+1)<G a-j)<|wk ⟨sR J,sR J,sR J,sR J,sE J ?_,T⟩ ⟨bR J,bE J ?_,bE J J,T⟩)
    .exact aC D S
    .rw[K,OH F 0 h1]
   .simp only[Pr.an,Pr.h,num,eO,true_and,and_true];rw[m];omega
  .have h1:j=G a:=by have h1:¬(n:Z)-(j:Z)>=0:=aL h1;omega
   subst h1;refine aN<|ay ?_;rw[v];have hmf:=aqP bW.mf;let ⟨hg8,QZ⟩:=aeh bW.mf;have x:wJ a=(tV<|dJ a).map (gX<|cj a):=rfl;rw[x];generalize tV (dJ a)=gs at*;generalize dJ a=fa at*;clear hF v x;refine dc (oN 5002000 J)<|e J<|L<|aO J J hmf J ?_;refine q<|aK (α:=I) (λi=>⟨[(3,.c<|.P 1001000 0),(13,.c<|.X 20000000),(77,N (.sl .z) gs),(78,D<|G gs),(79,D i)],[(20000000,.vec 40 (.sl .q)<|(y i gs).map<|gX<|cj a),(1001000,.box 44 0<|av .z ((cj a:I):Z))],30,[]⟩) (λi=>i<=G gs) (λi=>G gs-i) 0 (aW _) ?_ ?_
   .exact r6 20000000 40 (.sl .q) ⟨.inl<|sR J,.inr ⟨J,J⟩,.inl<|sR J,.inl<|sR J,.inl<|sE J J,T⟩ ⟨bR J,T⟩ J<|eC.of J
   intro i hi;refine e J<|L<|z J (λh1=>?_)<|λh1=>?_
   .have h1:i<G gs:=by have h1:(i:Z)<(G gs:Z):=az h1;omega
    have xn:(Y gs (ad<|(i:Z))<|ET.cJ<|.sl .z)=gs.getD i []:=aC (λg6=>gs.getD g6 [])<|aV i;let ⟨g1,g2,g3⟩:=QZ (gs.getD i []) z8;have Vb:y (i+1) gs=y i gs++[gs.getD i []]:=by rw[mM,aF,bD h1];rfl
    refine ai<|L<|q<|e J ?_ (hp:=ak);rw[xn];generalize gs.getD i []=g at*;have mX:=bX.2 g1.1;have hi1:i+1<=G gs:=h1;have avH:G ((y i gs).map<|gX<|cj a)<=8:=by rw[cL,il];omega
    obtain⟨u,hu⟩:∃u:I->O,u=λk=>iE (Y g k 0) (((cj a:I):Z)^(G g-1-k)):=⟨_,J⟩
    have H:(nA (λk=>qz<|u k) (0,0) (G g)<|G g)=(gX (cj a) g).map qz:=by rw[U9,hu,gX,LS];rfl
    refine t<|rm ZZ (G g) J J J J J J KF J ?_ ?_<|o J ?_
    .show G g*64<=_;omega
    .show G g*4<=_;omega
    refine aO J J (nL 1 A A) J<|L<|e J ?_;refine q<|aK (α:=I) (λj=>⟨[(3,.c<|.P 1001000 0),(13,.c<|.X 20000000),(77,N (.sl .z) gs),(78,D<|G gs),(79,D i),(15,N .z g),(16,.c<|.X 32002000),(17,.c<|.P 33001000 0),(18,D<|(G g:Z)-1-j)],[(20000000,.vec 40 (.sl .q)<|(y i gs).map<|gX<|cj a),(1001000,.box 44 0<|av .z ((cj a:I):Z)),(32002000,.vec 46 ZZ<|nA (λk=>qz<|u k) (0,0) (G g) j),(33001000,.box 44 0<|av .z<|((cj a:I):Z)^j)],40,[]⟩) (λj=>j<=G g) (λj=>G g-j) 0 (aW _) (wk ⟨sR J,sR J,sR J,sR J,sR J,sR J,sR J,sR J,sE J ?_,T⟩ ⟨bR J,bR J,bE J ?_,bE J J,T⟩) ?_
    .exact aC D S
    .rw[U8]
    intro j hj;refine L<|e J<|z J (λh1=>?_)<|λh1=>?_
    .have h1:j<G g:=by have h1:(G g:Z)-1-(j:Z)>=0:=az h1;omega
     have K:ad ((G g:Z)-1-(j:Z))=G g-1-j:=S;have f:=W j S;have s:0<((cj a:I):Z)^j:=kV S;have w:=amI (Y g (ad<|(G g:Z)-1-(j:Z)) 0) (((cj a:I):Z)^j) s ((g3 _).sm S)<|f.sm S;have E:iE (Y g (ad<|(G g:Z)-1-(j:Z)) 0) (((cj a:I):Z)^j)=u (ad<|(G g:Z)-1-(j:Z)):=by rw[hu];show _=iE _ (_^(G g-1-ad ((G g:Z)-1-(j:Z))));rw[(S:G g-1-ad ((G g:Z)-1-(j:Z))=j)]
     rw[E]at w;have l:=tb (((cj a:I):Z)^j) ((cj a:I):Z) (f.sm S)<|b.sm S;rw[<-dK]at l;have m:=U7 (λk=>qz<|u k) (0,0) (G g) j;refine ai<|L<|q<|t ?_;refine rc J J w ?_ (hp:=ak);refine jx (T:=ZZ) (qz<|u<|ad<|(G g:Z)-1-(j:Z)) J J J J J ?_ (o J ?_) (hp:=?_)
     .rw[m];omega
     .refine bs (rc J J l<|o J<|aT<|rt J<|aA (j+1) h1 Vc<|wk ⟨sR J,sR J,sR J,sR J,sR J,sR J,sR J,sR J,sE J ?_,T⟩ ⟨bR J,bR J,bE J ?_,bE J J,T⟩)
      .exact aC D S
      .rw[K,OH (λk=>qz<|u k) (0,0) h1]
     .simp only[Pr.an,Pr.h,num,eO,true_and,and_true];rw[m];omega
    .have h1:j=G g:=by have h1:¬(G g:Z)-1-(j:Z)>=0:=aL h1;omega
     subst h1;refine aN<|ay ?_;rw[H];refine dc (st':=⟨[(3,.c<|.P 1001000 0),(13,.c<|.X 20000000),(77,N (.sl .z) gs),(78,D<|G gs),(79,D i),(16,.c<|.X 32002000)],[(20000000,.vec 40 (.sl .q)<|(y i gs).map<|gX<|cj a),(1001000,.box 44 0<|av .z ((cj a:I):Z)),(32002000,.vec 46 .q<|gX (cj a) g)],41,[]⟩) (wk (aS J) ⟨bR J,bR J,⟨_,J,IX 46 _⟩,T⟩)<|dc (oN 32002000 J) ?_;refine bs<|rl (.sl .q) [gX (cj a) g] J J (ra J J J J J J J J J ?_ ?_<|o J<|aT<|rt J (hp:=ak)<|aA (i+1) hi1 (S:G gs-(i+1)<G gs-i)<|Wk.trans (wk (st':=⟨[(3,.c<|.P 1001000 0),(13,.c<|.X 41003000),(77,N (.sl .z) gs),(78,D<|G gs),(79,D (i+1:I))],[(41003000,.vec 40 (.sl .q)<|(y (i+1) gs).map<|gX<|cj a),(1001000,.box 44 0<|av .z ((cj a:I):Z))],43,[]⟩) (aS J) ⟨bE J ?_,bR J,T⟩)<|Wk.trans (fp 20000000 41003000 J J J) aM)
     .show(G ((y i gs).map<|gX<|cj a)+1+(G ((y i gs).map<|gX<|cj a)+1)/4+192)*24<=_;omega
     .show(G ((y i gs).map<|gX<|cj a)+1)*1<=_;omega
     .rw[Vb,fe];rfl
   .have h1:i=G gs:=by have h1:¬(i:Z)<(G gs:Z):=aL h1;omega
    subst h1;rw[eE];exact aN<|ay<|dc (oN 20000000 J)<|e J<|bU J
def mh(a b:V O):I->Z
 |0=>0
 |i+1=>if eK (Y a i 0) (Y b i 0)≠0 then eK (Y a i 0) (Y b i 0)else mh a b i
def ik(a b:V O):Z:=if G a≠G b then jg (G a) (G b)else mh a b (G a)
def aqX{l}(x:l<=100000) a b(B:G a<=1000)(E:G b<=1000)(m:∀i,QS l (Y a i 0))(n:∀i,QS l (Y b i 0)):af j 138 [N .q a,N .q b,l7 79] (D<|ik a b):=by
 refine aD Tryz.func138 ?_;refine e J<|L<|e J<|z J (λh=>?_)<|λh=>ai ?_
 .have h:G a≠G b:=λf=>by simp[f]at h
  refine aO J J (aaQ (G a)<|G b) J<|bc<|bt<|c9 J ?_;rw[ik,s h]
 .have h:G a=G b:=by have:(G a:Z)=(G b:Z):=du;omega
  have p:ik a b=mh a b (G a):=by rw[ik,M<|λf=>f h]
  rw[p];refine L<|e J<|q<|aK (α:=I) (λi=>⟨[(0,N .q a),(1,N .q b),(2,l7 79),(7,D<|(i:Z)-1)],[],3,[]⟩) (λi=>i<=G a/\mh a b i=mh a b (G a)) (λi=>i) (G a) ⟨a8 _,J⟩ aM ?_;rintro i ⟨C,g⟩;refine L<|e J<|z J (λc=>?_)<|λc=>?_
  .have c:0<i:=by have c:(i:Z)-1>=0:=az c;omega
   obtain⟨i,rfl⟩:∃k,i=k+1:=⟨i-1,S⟩;have r:ad (((i+1:I):Z)-1)=i:=S;have v:af j 79 ([]++([aQ (Y a (ad<|((i+1:I):Z)-1) 0),aQ<|Y b (ad<|((i+1:I):Z)-1) 0]++[])) (D<|eK (Y a i 0)<|Y b i 0):=by rw[r];exact abe _ _ (m _) (n _) S
   rw[mh]at g;refine ai<|L<|q<|t<|BF J J (.inl ⟨J,J,J⟩) J v (o J<|e J<|z J (λd=>?_)<|λd=>?_) (hp:=ak)
   .have d:eK (Y a i 0) (Y b i 0)≠0:=λf=>by rw[f]at d;simp at d
    rw[s d]at g;rw[<-g];exact e J<|bc<|eH<|bt<|gf<|eH<|bt<|atR J
   .have d:eK (Y a i 0) (Y b i 0)=0:=by generalize eK (Y a i 0) (Y b i 0)=F at*;simpa using d
    rw[M (λf=>f d)]at g;refine bN<|aT<|rt J (hp:=ak)<|aA i ⟨S,g⟩ (S:i<i+1)<|wk ⟨sR J,sR J,sR J,sE J ?_,T⟩ T;exact aC D S
  .have c:i=0:=by have c:¬(i:Z)-1>=0:=aL c;omega
   subst c;rw[<-g];exact aN<|ay<|e J<|bU J
abbrev cR:V O×Z:=([],0)
def jl(x a:V O×Z):Z:=ik x.1 a.1
structure oD(w:I)(x:V O×Z):Prop where
 l:x.1.length<=1000
 q:∀i,QS w (x.1.getD i 0)
def aqY{c}(g:c<=100000) x b(d:oD c x)(f:oD c b):af j 137 ([]++([.a (av UT x),.a<|av UT b]++[])) (D<|jl x b):=by refine aD Tryz.func137 ?_;exact e J<|aO J J (aqX g x.1 b.1 d.l f.l d.q f.q) J<|bU J
def aei(x:V O×Z):js (.a<|y 2<|aE 0<|av UT x)=some (av UT x):=by rcases x with⟨a,b⟩;rfl
def aqZ{n}(E:n<=100000)(xs:V (V O×Z))(R:xs.length<=12)(F:∀x∈xs,oD n x):mR Tryz.prog 259 [.c (.X 0),D 0,D xs.length,l7 137] 80 UT xs (.t []) (jh cR jl xs<|xs.length-1):=by
 refine pB Tryz.func259 J J J J J A ?_;refine e J ?_;refine q<|aK (α:=I) (λi=>⟨[(0,.c<|.X 0),(1,D 0),(2,D xs.length),(3,l7 137),(8,D i)],[(0,.vec 80 UT<|jh cR jl xs<|i-1)],2,[]⟩) (λi=>1<=i/\i-1<=xs.length-1) (λi=>xs.length-i) 1 ⟨a8 _,aW _⟩ (wk (aS J) ⟨bE J J,T⟩) ?_;rintro i ⟨C,U⟩;refine L<|e J<|z J (λh=>?_)<|λh=>?_
 .have h:i<xs.length:=by have h:(i:Z)<(xs.length:Z):=az h;omega
  have H:jh cR jl xs i=qU cR jl i (jh cR jl xs<|i-1):=by obtain⟨m,rfl⟩:∃m,i=m+1:=⟨i-1,S⟩;rfl
  refine ai<|L<|q<|e J ?_;refine q<|aK (α:=I×V (V O×Z)) (λx=>⟨[(0,.c<|.X 0),(1,D 0),(2,D xs.length),(3,l7 137),(8,D i),(9,D x.1)],[(0,.vec 80 UT x.2)],4,[]⟩) (λx=>qU cR jl x.1 x.2=jh cR jl xs i/\x.1<=i/\x.2.length=xs.length/\∀k∈x.2,oD n k) (λx=>x.1) (i,jh cR jl xs<|i-1) ⟨H.symm,a8 _,zK xs _,λk p=>F k<|aaT S p⟩ aM ?_;rintro⟨j,b⟩ ⟨d,r,l,f⟩;simp only at d r l f;refine L<|t<|rg 21 J J (λg=>?_)<|λg=>?_
  .have g:0<j:=by have g:(j:Z)>0:=az g;omega
   obtain⟨j,rfl⟩:∃m,j=m+1:=⟨j-1,S⟩;have v:(((j+1:I):Z)).toNat=j+1:=aV _;have B:(((j+1:I):Z)-1).toNat=j:=S;have K:b.getD (j+1) cR∈b:=by rw[BP S];exact j6 _
   have P:b.getD j cR∈b:=by rw[BP S];exact j6 _
   have Q:af Tryz.prog 137 ([]++([.a (av UT<|b.getD (((j+1:I):Z)).toNat cR),.a<|av UT<|b.getD (((j+1:I):Z)-1).toNat cR]++[])) (D<|jl (b.getD (j+1) cR)<|b.getD j cR):=by rw[v,B];exact aqY E _ _ (f _ K)<|f _ P
   rw[qU]at d;refine Sn J J J J J (.inl ⟨J,J,J⟩) J Q (o J<|z J (λh2=>?_)<|λh2=>?_) (hp:=ak)
   .have h2:jl (b.getD (j+1) cR) (b.getD j cR)<0:=az h2;rw[s h2]at d;refine ai (L<|q<|bs<|jx (b.getD j cR) J J J J ?_ ?_ (jx (b.getD (j+1) cR) J J J J ?_ ?_ (o J ?_) (hp:=?_)) (hp:=?_))
    .show js (.a<|y 2<|aE 0<|av UT<|b.getD (((j+1:I):Z)-1).toNat cR)=_;rw[B];exact aei _
    .show(((j+1:I):Z)).toNat<b.length;omega
    .show js (.a<|y 2<|aE 0<|av UT<|b.getD (((j+1:I):Z)).toNat cR)=_;rw[v];exact aei _
    .show(((j+1:I):Z)-1).toNat<(b.set _ _).length;rw[fP];omega
    .refine aT (rt J (hp:=ak)<|aA (j,uX cR b j) ⟨d,(S:j<=i),by rw[If];exact l,λk p=>f k<|(SW S).mem_iff.1 p⟩ ni<|wk ⟨sR J,sR J,sR J,sR J,sR J,⟨_,J,?_⟩,T⟩ ⟨bE J ?_,T⟩)
     .exact a7.of_eq<|gh (S:((j+1:I):Z)-1=(j:Z))
     .show aH.vec 80 UT ((b.set (((j+1:I):Z)).toNat _).set (((j+1:I):Z)-1).toNat _)=_;rw[v,B];rfl
    .show 0<=((j+1:I):Z)-1/\((j+1:I):Z)-1<((b.set _ _).length:Z);rw[fP];omega
    .simp only[Pr.an,Pr.h,num,eO,true_and,and_true];omega
   .have h2:¬jl (b.getD (j+1) cR) (b.getD j cR)<0:=aL h2;rw[M h2]at d;subst d;exact aN<|aT<|rt J (hp:=ak)<|aA (i+1) ⟨S,S⟩ Ew<|wk ⟨sR J,sR J,sR J,sR J,sE J J,T⟩ ⟨bR J,T⟩
  .have g:j=0:=by have g:¬(j:Z)>0:=aL g;omega
   subst g;have d:b=jh cR jl xs i:=d;subst d;exact o J<|z J (λh2=>nl)<|λ_=>aN<|aT<|rt J (hp:=ak)<|aA (i+1) ⟨S,S⟩ Ew<|wk ⟨sR J,sR J,sR J,sR J,sE J J,T⟩ ⟨bR J,T⟩
 .have h:i-1=xs.length-1:=by have h:¬(i:Z)<(xs.length:Z):=aL h;omega
  rw[h];exact aN<|y7 a6 J (a7.refl _) J
def aq0{a}(d:a<=100000) xs(f:G xs<=12)(g:∀x∈xs,oD a x) b:mR j 206 [.c (.X 0),D 0,D<|G xs,D b,l7 137] 80 UT xs (.t []) (jh cR jl xs<|G xs-1):=by
 refine pB Tryz.func206 J J J J J A ?_;refine e J<|e J ?_;refine q<|aK (α:=Unit) (λ_=>⟨[(0,.c<|.X 0),(1,D 0),(2,D<|G xs),(3,D b),(4,l7 137)],[(0,.vec 80 UT xs)],3,[]⟩) (λ_=>True) (λ_=>0) () T aM ?_;rintro- -;refine q<|e J<|L<|e J<|z J (λh=>?_)<|λh=>?_
 .exact t<|nJ 0 J (aqZ d xs f g) J J<|o J<|bc<|bt<|eH<|gf<|eH<|s7 a6 J (a7.refl _) J
 .have h:¬((G xs:Z)-0<=12):=aL h;omega
def aq1{w}(d:w<=100000) xs(b:G xs<=12)(f:∀x∈xs,oD w x):mR j 136 [.c (.X 0),l7 137] 80 UT xs (.t []) (jh cR jl xs<|G xs-1):=by
 refine pB Tryz.func136 J J J J J A ?_;refine e J ?_;have a:af j 130 [AV.c (num .u64 (G xs:Z)).1] (D<|pD<|G xs):=by rw[show(AV.c (num .u64 (G xs:Z)).1)=cU (G xs:Z)from bA<|wrap_u64 _ S S];exact Lm _ b
 refine bs<|rc J J a<|nJ 0 J (aq0 d xs b f _) J J<|o J<|y7 a6 J (a7.refl _) J
open Rx
def CD(c a:I)(b:Rx):Prop:=0<c/\∀i,∃z:Z,aq z<=a/\((c:I):O)*b i=(z:O)
def CD.int{c b}{a}(d:CD c b a):ef (K ((c:I):O)*a):=ef.of λi=>by let ⟨z,_,h2⟩:=d.2 i;exact⟨z,by rw[iQ,h2]⟩
def CD.le{c a b}{d}(f:CD c a d)(k:a<=b):CD c b d:=⟨f.1,λi=>by let ⟨z,g,h2⟩:=f.2 i;exact⟨z,cQ g k,h2⟩⟩
def CD.low{c d f}{a}(g:CD c f a)(m:d∣c)(n:ef (K ((d:I):O)*a)):CD d f a:=by
 obtain⟨j,rfl⟩:=m;have x:=g.1;have p:0<d:=oj λe=>by subst e;omega
 have r:0<j:=oj λe=>by subst e;omega
 refine⟨p,λi=>?_⟩;let ⟨z,k,h2⟩:=g.2 i;have b:=n.at i;rw[iQ]at b;refine⟨_,?_,b⟩;generalize nu (K ((d:I):O)*a) i=y at*;have l:((j:Z):O)*(y:O)=(z:O):=by rw[<-h2,<-b,zS,sc];grind
 rw[<-iF]at l;have v:(j:Z)*y=z:=yb.1 l;rw[<-v,qE]at k;have:1*aq y<=j*aq y:=eB _ r;have e:aq ((j:Z))=j:=rfl;rw[e]at k;omega
def aq2{a}{b}(d:∀i,aq (a i)<=b):∀n,Rx.vb n a<=(((n+1)*b:I):Z):=by
 intro n;have c:∀k,sm (λi=>(aq (a i):Z)) k<=((k*b:I):Z):=by
  intro k;induction k with
  |zero=>simp[sm]
  |succ k f=>
   rw[sm]
   have:=d k
   rw[g7,iL]
   omega
 exact c<|n+1
def CD.div{c f}{g a}(hA:Mo g)(F:Mo a)(hd:a∣g)(bW:CD c f g):∃d,Dn a d/\d∣c/\CD d (2^(sz g-1)*(sz g*f)) a:=by
 obtain⟨E,rfl⟩:=hd;have C:Mo E:=hA.zO F;let ⟨d,b⟩:=IC a;let ⟨e,p⟩:=IC E;let ⟨n,H⟩:=IC<|E*a;have o:=abF C F p b H;have r:=H.dvd c bW.int;have P:d∣c:=ED ⟨e,by rw[o,fR]⟩ r;have Q:=bW.low r H.int;have N:=dE C.ne F.ne;have T:=dX C.ne;have s2:=dX F.ne;refine⟨d,b,P,b.pos,λi=>⟨nu (K ((d:I):O)*a) i,?_,by rw[<-iQ];exact b.int.at i⟩⟩;have q:∀{m:I}{B:Rx},0<m->sz (K ((m:I):O)*B)<=sz B:=λ_=>u6 λi t=>by rw[iQ,nV t,jA]
 have u:nu (K ((e:I):O)*E) (sz E-1)≠0:=λw=>by have v:=p.int.at<|sz E-1;rw[iQ,w]at v;have R:E (sz E-1)=1:=C;rw[R,zN]at v;exact x9 (Ti.1 p.pos) v
 have U:=abI (A:=nu<|K ((d:I):O)*a) (B:=nu<|K ((e:I):O)*E) (k:=sz a-1) (l:=sz E-1) (λj y=>Tg<|by have:=q (B:=a) b.pos;omega) (λj y=>Tg<|by have:=q (B:=E) p.pos;omega) u i;have G:nu (K ((d:I):O)*a)*nu (K ((e:I):O)*E)=nu (K ((n:I):O)*(E*a)):=by rw[<-Nh b.int p.int];congr 1;rw[o,zS,eS];ac_rfl
 rw[G]at U;have J:∀i,aq (nu (K ((n:I):O)*(E*a)) i)<=f:=λi=>by let ⟨z,v,R⟩:=Q.2 i;have s:=H.int.at i;rw[iQ,R]at s;rw[<-yb.1 s];exact v
 have x:=aq2 J<|sz a-1+(sz E-1);rw[(S:sz a-1+(sz E-1)=sz (E*a)-1)]at U x;have W:(0:Z)<=2^(sz (E*a)-1):=zL<|kV A;have X:=tJ U<|ja x W;rw[(S:sz (E*a)-1+1=sz (E*a))]at X;have L:(2:Z)^(sz (E*a)-1)*((sz (E*a)*f:I):Z)=((2^(sz (E*a)-1)*(sz (E*a)*f):I):Z):=by rw[fF (2^(sz (E*a)-1)),ot];rfl
 rw[L]at X;exact ID.1 X
def CD.ht{c b a}{d}(h:CD c b d)(f:c<=a)(g:b<=a):Ht a d:=⟨(c:Z),DX,f,λi=>by let ⟨z,k,h2⟩:=h.2 i;exact⟨z,cQ k g,h2⟩⟩
def aej{a}{d b}(c:CD d b (lx a)):cj a∣d:=U2 a (λj=>by
 let ⟨z,_,h2⟩:=c.2 j;rw[kQ]at h2;have f:=IB<|Y a j 0;generalize Y a j 0=r at*;have g:((d:Z)*r.num:Z)=z*(r.den:Z):=by refine yb.1 ?_;rw[iF,iF,<-f,<-h2,sc,sc];grind
 have i:(r.den:Z)∣r.num*(d:Z):=⟨z,by rw[ew,g,ew]⟩;have k:r.den∣aq r.num*d:=by have:=Hf.2 i;rwa[qE]at this
 exact(r.reduced.symm.dvd_of_dvd_mul_left k)) _
def aq3 a:ef (K ((cj a:I):O)*lx a):=ef.of λi=>by
 by_cases c:i<G a
 .refine⟨(Y a i 0).num*((cj a:I):Z)/((Y a i 0).den:Z),?_⟩;have b:(Y a i 0).den∣cj a:=E8 a _ i c;rw[OE _ (xR.2 b),iQ,kQ];rfl
 .exact⟨0,by rw[iQ,kQ,kv a S,jA];rfl⟩
def aq4{a}{d m b g}(f:CD d m (lx a))(c:Y a (G a-1) 0=1)(p:d<=2^b)(r:m<=2^g)(P:(G a-2)*b+g<=191) i:aw 6 (Y (dJ a) i 0):=by
 have v:(4294967296:I)^6=2^192:=A;unfold aw;rw[v];by_cases k:i<G a
 .by_cases x:i=G a-1
  .subst x;rw[OD a k,c,gx,oQ];exact Nat.one_lt_two_pow A
  .have B:=f.low (aej f)<|aq3 a;let ⟨z,C,h2⟩:=B.2 i;rw[kQ]at h2;have E:cj a<=2^b:=cQ (pG f.1<|aej f) p;obtain⟨j,F⟩:∃j,G a-1-i=j+1:=⟨G a-1-i-1,S⟩;have H:(Y a i 0).num*((cj a:I):Z)^(j+1)/((Y a i 0).den:Z)=((cj a:I):Z)^j*z:=by
    refine yb.1 ?_;have l:((Y a i 0).den:Z)∣((cj a:I):Z)^(j+1):=by rw[dK];exact Ey (xR.2<|E8 a _ i k)<|B1 _ _
    rw[OE _ l,iF,<-h2,dK,iF,sc];grind
   rw[OD a k,F,H,qE,Int.natAbs_pow,lO];have K:cj a^j<=2^(b*j):=by rw[wc];exact v5 E j
   have Q:b*j<=(G a-2)*b:=by rw[fR];exact eB _ S
   have n:cj a^j*aq z<=2^(b*j)*2^g:=ly K<|cQ C r;rw[<-om]at n;exact s8 n<|RZ A S
 .rw[cF _ (by rw[Aa];omega)];exact lN A
noncomputable def fK:V (V O×Z)->Rx
 |[]=>1
 |x::l=>pk (lx x.1) (ad x.2)*fK l
noncomputable def p':V (Rx×Z)->Rx
 |[]=>1
 |x::l=>pk x.1 (ad x.2)*p' l
def aek:∀l m,fK (l++m)=fK l*fK m
 |[],m=>by rw[sV,fK,one_mul]
 |x::l,m=>by rw[kU,fK,fK,aek l m,mul_assoc]
def ael:∀l m,p' (l++m)=p' l*p' m
 |[],m=>by rw[sV,p',one_mul]
 |x::l,m=>by rw[kU,p',p',ael l m,mul_assoc]
def aem:∀l:V (V O×Z),fK l=p' (l.map λp=>(lx p.1,p.2))
 |[]=>rfl
 |x::l=>by rw[gZ,fK,p',aem l]
def aen{l m}(a:l.Perm m):fK l=fK m:=by
 induction a with
 |nil=>rfl
 |cons x _ b=>rw[fK,fK,b]
 |swap x y l=>rw[fK,fK,fK,fK];ac_rfl
 |trans _ _ i1 i2=>exact i1.trans i2
structure lD(a:V O)(fs:V (V O×Z)):Prop where
 ok:∀x∈fs,x.1.getD (x.1.length-1) 0=1/\bw (lx x.1)/\1<=x.2
 prod:fK fs=lx (cV a)
 oY:fs.Pairwise (λx b=>x.1≠b.1)
 OJ:Ih cR jl fs (fs.length-1)
def aeo(c:I->I)(a:I):∀b,pk (pF c b) a=pF (λm=>c m*a) b
 |[]=>wg a
 |x::b=>by rw[pF,pF,qK,aeo c a b,rV]
def Vd{a}(b:FL a)(c:I->I):Mo (pF c a):=oZ b.mo
def aep{a:V (Rx×I)}(b:FL a):∀(k n:I),p' (mI a k n)=pF (λm=>if n<=m/\m<n+k then m else 0) a
 |0,n=>by rw[mI,p'];exact(Na λx _=>M S).symm
 |k+1,n=>by
  have f:p' (if 1<sz (pF (kP n) a)then[(pF (kP n) a,(n:Z))]else[])=pk (pF (kP n) a) n:=by
   split
   .rw[p',p',mul_one,aV]
   .rename_i g;have c:=Vd b<|kP n;have:=dX c.ne;rw[c.unit S,wg,p']
  rw[mI,ael,f,aep b k<|n+1,aeo,<-zP];refine wA λx _=>?_
  unfold kP;by_cases e:x.2=n
  .rw[s e,M S,s S];omega
  .rw[M e];by_cases d:n+1<=x.2/\x.2<n+1+k
   .rw[s d,s S];omega
   .rw[M d,M S];omega
def Ve{b:V (Rx×I)}:∀{k n:I}{c:Rx×Z},c∈mI b k n->∃m:I,n<=m/\c=(pF (kP m) b,(m:Z))/\1<sz (pF (kP m) b)
 |0,_,_,a=>by cases a
 |k+1,n,c,a=>by
  rw[mI]at a;rcases b8.1 a with a|a
  .split at a
   .rename_i d;exact⟨n,a8 _,iu.1 a,d⟩
   .cases a
  .let ⟨m,d,h2,f⟩:=Ve a;exact⟨m,S,h2,f⟩
def aeq{L:V (Rx×I)}:∀(k n:I),(mI L k n).Pairwise (λx b=>x.2≠b.2)
 |0,_=>wu
 |k+1,n=>by
  rw[mI];refine tD.2 ⟨?_,aeq k<|n+1,λx a b c=>?_⟩
  .split
   .exact Ib _ _
   .exact wu
  .let ⟨m,d,h2,_⟩:=Ve c;split at a
   .rw[iu.1 a,h2];show(n:Z)≠(m:Z);omega
   .cases a
def aq5{a}(b:FL a) m:Co (pF (kP m) a) (bp<|pF (kP m) a):=by
 refine xZ (Vd b _).ne λQ c d f=>?_
 let ⟨x,hx,i,h2⟩:=wB c d;have g:kP m x.2=1:=by have:=BT m x.2;omega
 exact b.EB (BT m) hx g<|dvd_trans (c.assoc (b.fq x hx) h2) f
def aq6{a}(b:Co a (bp a)){Q}(i:2<=sz Q):¬Q*Q∣a:=λ⟨w,e⟩=>by
 have c:Q∣a:=⟨w*Q,by rw[e];ac_rfl⟩;have d:Q∣bp a:=by rw[e,uV,uV];refine dvd_add ⟨bp w*Q,eT⟩ ?_;rw[mul_add];exact dvd_add ⟨w*bp Q,eT⟩ ⟨w*bp Q,eT⟩
 let ⟨U,V,f⟩:=b;have g:Q∣1:=by rw[<-f];exact dvd_add (dz c _)<|dz d _
 have:=dvd_one g;omega
def OK{b:V O}:∀{l:V (V O)},b∈l->lx b∣n9 l
 |v::l,a=>by
  rw[n9];rcases df.1 a with rfl|a
  .exact dvd_mul_right _ _
  .exact dz (OK a) _
def aer:∀{l:V (V O)},(∀a∈l,bw (lx a))->(∀Q:Rx,2<=sz Q->¬Q*Q∣n9 l)->l.Pairwise (·≠·)
 |[],_,_=>wu
 |v::l,c,d=>by refine im.2 ⟨λa b f=>?_,aer (λa b=>c a<|by simp[b]) λQ g i=>d Q g<|dz i _⟩;subst f;exact d (lx v) (c v ax).1<|tx (dvd_refl _)<|OK b
def aes(m:Z):∀l:V (V O),fK (l.map λa=>(a,m))=pk (n9 l) (ad m)
 |[]=>(wg _).symm
 |a::l=>by rw[gZ,fK,n9,qK,aes m l]
def fM(ir:V O->V (V O))(a:V (V O×Z)):V (V O×Z):=a.flatMap λp=>(ir p.1).map λu=>(u,p.2)
noncomputable def fL(a:V (V O×Z)):V (V O×Z):=fM wJ a
def aet{ir:V O->V (V O)}:∀{a:V (V O×Z)},(∀p∈a,n9 (ir p.1)=lx p.1)->fK (fM ir a)=fK a
 |[],_=>rfl
 |p::a,b=>by rw[fM,mm,aek,aes,b p ax,fK];exact aC _ (aet λc d=>b c<|by simp[d])
def aeu:∀{l:V (V O×Z)},(∀x∈l,bw (lx x.1)/\1<=x.2)->fK l≠0/\G l+1<=sz (fK l)
 |[],_=>⟨nn,by rw[fK,np];exact a8 _⟩
 |x::l,a=>by
  let ⟨i1,i2⟩:=aeu (l:=l) λy hy=>a y mV
  let ⟨c,h2⟩:=a x ax;have d:=Ox c.1<|ad x.2;have b:pk (lx x.1) (ad x.2)≠0:=λe=>by rw[e,kd]at d;omega
  have:=dE b i1;rw[fK];exact⟨nQ b i1,Ab⟩
def Vf{x:V O×Z}:∀{l:V (V O×Z)},x∈l->1<=x.2->lx x.1∣fK l
 |d::l,a,b=>by
  rw[fK];rcases df.1 a with rfl|a
  .obtain⟨n,c⟩:∃n,ad x.2=n+1:=⟨ad x.2-1,S⟩;rw[c];exact lQ (dvd_mul_left _ _) _
  .exact dz (Vf a b) _
def OL a b:eK a b= -eK b a:=by
 unfold eK;by_cases c:a<b
 .rw[s c,M<|Fb.2<|ON c,s c]
 .rw[M c];by_cases h2:b<a
  .rw[s h2,s h2];rfl
  .rw[M h2,M h2,M c];rfl
def aev(a b:V O):∀i,mh a b i= -mh b a i
 |0=>rfl
 |i+1=>by
  rw[mh,mh,OL (Y b i 0)<|Y a i 0,aev a b i];generalize eK (Y a i 0) (Y b i 0)=f;by_cases d:f=0
  .rw[M (λc=>c d),M<|λc=>c S]
  .rw[s d,s S];omega
def aq7 a b:ik a b= -ik b a:=by
 unfold ik;by_cases h:G a=G b
 .rw[M (λe=>e h),M<|λe=>e h.symm,aev,h]
 .rw[s h,s<|λe=>h e.symm,SZ]
def Ff x a:jl x a= -jl a x:=aq7 _ _
structure kD(a:V O):Prop where
 can:bY a
 ne:a≠[]
 l9:a.length<=9
 hA:Ht (2^1500) (lx a)
 sz:∃c e h:I,CD c (2^h) (lx<|cV a)/\c<=2^e/\e<=600/\(a.length-2)*e+(h+12)<=191
section
variable{a:V O}
def kD.mo(b:kD a):Mo (lx<|cV a):=Oq b.can b.ne
def kD.Jr(b:kD a):Rx.sz (lx<|cV a)=G a:=by rw[dH (oC a),Jj b.can]
def kD.div(f:kD a){g}(m:Mo g)(n:g∣lx (cV a)):∃d b i,CD d (2^i) g/\d<=2^b/\b<=600/\(G a-2)*b+i<=191:=by let ⟨c,b,k,l,h2,p,r⟩:=f.sz;let ⟨d,_,d2,d3⟩:=l.div f.mo m n;refine⟨d,b,k+12,d3.le ?_,cQ (pG l.1 d2) h2,p,r⟩;rw[f.Jr];have v:=f.l9;have x:2^(G a-1)<=2^8:=fG A S;have B:G a*2^k<=9*2^k:=eB _ v;have C:=ly x B;rw[om];omega
def kD.ht(c:kD a){b}(f:Mo b)(g:b∣lx (cV a)):Ht (2^600) b:=by let ⟨d,e,t,i,h2,k,l⟩:=c.div f g;exact i.ht (cQ h2<|Jl 600 k)<|Jl 600 S
def kD.qs(c:kD a){b}(d:Mo b)(f:b∣lx (cV a)) i:QS 20 (b i):=(c.ht d f).qs (m7 (t:=600) S) i
def Vg{b}(c:bY b)(d:Mo (lx b)):Y b (G b-1) 0=1:=by have:=d;rw[Mo,dH c]at this;exact this
def Ac{b}(c:Y b (G b-1) 0=1):bY b/\Mo (lx b):=by have d:bY b:= .inr (by rw[c];decide);exact⟨d,by rw[Mo,dH d];exact c⟩
def kD.irH(c:kD a){b}(g:bY b)(f:Mo (lx b))(k:lx b∣lx (cV a))(l:2<=G b)(m:Co (lx b) (bp<|lx b)):jC b/\∀i,QS 20 (Y b i 0):=by
 have r:G b<=G a:=by have:=fV k c.mo.ne;rwa[dH g,c.Jr]at this
 have v:=c.l9;let ⟨d,e,t,n,p,x,B⟩:=c.div f k;have C:(G b-2)*e<=(G a-2)*e:=eB _ S;exact⟨⟨Vg g f,l,S,m,λi=>aq4 n (Vg g f) p (a8 _) S i⟩,λi=>c.qs f k i⟩
def aq9{b}{m}(c:1<=m):pF (kP m) b∣pF id b:=by
 have e:pF id b=pF (λk=>(k-kP m k)+kP m k) b:=wA λx _=>by show x.2=_;unfold kP;split<;>omega
 rw[e,zP];exact dvd_mul_left _ _
def kD.aew(H:kD a){ir:V O->V (V O)}(hI:∀B,jC B->(∀i,QS 20 (Y B i 0))->(∀E∈ir B,Y E (G E-1) 0=1/\bY E/\Mo (lx E)/\bw (lx E))/\n9 (ir B)=lx B){P}(F:FL P)(hF:pF id P=lx (cV a)){b}(U:b.map (λp=>(lx p.1,p.2))=mI P (G a) 1)(hq:∀p∈b,bY p.1):
  (∀p∈b,jC p.1/\(∀i,QS 20 (Y p.1 i 0))/\1<=p.2)/\G (fM ir b)<=8/\(∀x∈fM ir b,oD 20 x)/\(∀x∈fM ir b,Y x.1 (G x.1-1) 0=1/\bw (lx x.1)/\1<=x.2)/\fK (fM ir b)=lx (cV a)/\(fM ir b).Pairwise (λx g=>x.1≠g.1):=by
 have C:∀p∈b,∃m:I,1<=m/\lx p.1=pF (kP m) P/\p.2=(m:Z)/\2<=G p.1:=λp k=>by
  have j:(lx p.1,p.2)∈mI P (G a) 1:=by rw[<-U];exact Od (f:=λp:V O×Z=>(lx p.1,p.2)) k
  let ⟨m,m1,K,w⟩:=Ve j;let ⟨e1,e2⟩:=Prod.mk.inj K;refine⟨m,m1,e1,e2,?_⟩;rw[<-e1,dH<|hq p k]at w;exact w
 have c:∀p∈b,jC p.1/\(∀i,QS 20 (Y p.1 i 0))/\1<=p.2:=λp k=>by
  let ⟨m,m1,K,w,m4⟩:=C p k;have hm:Mo (lx p.1):=by rw[K];exact Vd F _
  let ⟨i1,i2⟩:=H.irH (hq p k) hm (by rw[K,<-hF];exact aq9 m1) m4 (by rw[K];exact aq5 F m);exact⟨i1,i2,S⟩
 have hxo:∀x∈fM ir b,∃p∈b,x.1∈ir p.1/\x.2=p.2:=λx l=>by let ⟨p,k,l⟩:=jF.1 l;obtain⟨E,t,rfl⟩:=kY.1 l;exact⟨p,k,t,J⟩
 have W:∀x∈fM ir b,Y x.1 (G x.1-1) 0=1/\bw (lx x.1)/\1<=x.2:=λx l=>by let ⟨p,k,j,T⟩:=hxo x l;let ⟨i1,_,i2,i3⟩:=(hI p.1 (c p k).1 (c p k).2.1).1 _ j;exact⟨i1,i3,by rw[T];exact(c p k).2.2⟩
 have r:fK (fM ir b)=lx (cV a):=by
  rw[aet λp k=>(hI p.1 (c p k).1 (c p k).2.1).2,aem,U,aep F,<-hF];refine wA λx l=>?_
  have j:=F.pos x l;have T:=Oy F l;rw[hF,H.Jr]at T;exact s S
 have z:G (fM ir b)<=8:=by have:=(aeu λx l=>(W x l).2).2;rw[r,H.Jr]at this;have:=H.l9;omega
 have A:(fM ir b).Pairwise (λx g=>x.1≠g.1):=by
  have OO:b.Pairwise (λx g=>x.2≠g.2):=by have:=aeq (L:=P) (G a) 1;rw[<-U]at this;exact(wh (R:=λx g:Rx×Z=>x.2≠g.2)).1 this
  have go:∀{o:V (V O×Z)},(∀p∈o,p∈b)->o.Pairwise (λx g=>x.2≠g.2)->(fM ir o).Pairwise (λx g=>x.1≠g.1):=by
   intro o;induction o with
   |nil=>intro _ _;exact wu
   |cons p o ih=>
    intro U k
    let ⟨p1,p2⟩:=im.1 k
    have d:=U p ax
    refine tD.2 ⟨?_,ih (λB hq=>U B<|by simp[hq]) p2,λx l g hy e=>?_⟩
    .let ⟨i1,i2⟩:=hI p.1 (c p d).1 (c p d).2.1;refine wh.2<|aer (λE t=>(i1 E t).2.2.2) λQ hQ D=>?_;rw[i2]at D;exact aq6 (c p d).1.co hQ D
    .obtain⟨E,t,rfl⟩:=kY.1 l;let ⟨B,M,hy'⟩:=jF.1 hy;obtain⟨v,hv,rfl⟩:=kY.1 hy';have e:E=v:=e;subst e;have X:=U B (by simp[M]);let ⟨m,m1,K,w,_⟩:=C p d;let ⟨n,n1,n2,n3,_⟩:=C B X;let ⟨i1,i2⟩:=hI p.1 (c p d).1 (c p d).2.1;let ⟨j1,j2⟩:=hI B.1 (c B X).1 (c B X).2.1;let ⟨_,_,um,ui⟩:=i1 E t;have d1:lx E∣pF (kP m) P:=by rw[<-K,<-i2];exact OK t
     have d2:lx E∣pF (kP n) P:=by rw[<-n2,<-j2];exact OK hv
     let ⟨x,x1,x2,x3⟩:=wB ui d1;let ⟨g,y1,y2,y3⟩:=wB ui d2;have ex:=ui.eq (F.fq x x1) um (F.mo x x1) x3;have ey:=ui.eq (F.fq g y1) um (F.mo g y1) y3;have kx:x.2=m:=Iv.1 (by have:=BT m x.2;omega);have ky:g.2=n:=Iv.1 (by have:=BT n g.2;omega);by_cases N:x=g
     .refine p1 B M ?_;rw[w,n3,<-kx,<-ky,N]
     .exact FL.M9 F.oY x1 y1 N (by rw[<-ex,<-ey])
  exact go (λp k=>k) OO
 refine⟨c,z,λx l=>?_,W,r,A⟩
 .let ⟨j,T,h3⟩:=W x l;let ⟨h4,h5⟩:=Ac j;have D:lx x.1∣lx (cV a):=by rw[<-r];exact Vf l h3
  have hl:=fV D H.mo.ne;rw[dH h4,H.Jr]at hl;have:=H.l9;exact⟨S,λi=>H.qs h5 D i⟩
def kD.out(g:kD a){k}(r:FL k)(v:pF id k=lx (cV a)){b}(B:b.map (λp=>(lx p.1,p.2))=mI k (G a) 1)(m:∀p∈b,bY p.1):
  (∀p∈b,jC p.1/\(∀i,QS 20 (Y p.1 i 0))/\1<=p.2)/\G (fL b)<=8/\(∀x∈fL b,oD 20 x)/\lD a (jh cR jl (fL b)<|G (fL b)-1):=by
 let ⟨C,h2,E,n,d,f⟩:=g.aew (ir:=wJ) (λq m _=>aqI m) r v B m
 have c:(jh cR jl (fL b)<|G (fL b)-1).Perm (fL b):=by
  cases e:fL b with
  |nil=>exact uY _
  |cons x l=>exact Ig _ _ Ab
 refine⟨C,h2,E,λx F=>n x<|c.mem_iff.1 F,by rw[aen c];exact d,c.symm.pairwise f (λg e=>g e.symm),?_⟩
 rw[zK]
 cases e:fL b with
 |nil=>exact λt H=>absurd H<|yV _
 |cons x l=>exact SX Ff _ _ Ab
end
end Go.El
namespace Go.El
open Go Go.Proofs
def arb{a}{i}(c:i<G a):fL (y (i+1) a)=fL (y i a)++(wJ (Y a i cR).1).map λd=>(d,(Y a i cR).2):=by
 have b:y (i+1) a=y i a++[Y a i cR]:=by rw[mM,aF,bD c];rfl
 rw[b,fL,fM,uC];simp[fL,fM]
def Vh{L:V (Rx×I)}:∀k n,G (mI L k n)<=k
 |0,_=>a8 _
 |k+1,n=>by
  have:=Vh (L:=L) k<|n+1;rw[mI,fO];split
  .rw[wK];omega
  .rw[k6];omega
def arc{out}i:G (fL<|y i out)<=G (fL out):=by
 have e:fL out=fL (y i out)++fL (aE i out):=by
  conv=>lhs;rw[<-ri i out]
  rw[fL,fM,uC];rfl
 rw[e,fO];omega
def OP{a:V O}(f:kD a):∃v,lD a v/\G v<=8/\(∀x∈v,oD 20 x)/\af j 72 [N .q a] (.t [(ae,av .q<|Y a (G a-1) 0),(ah,[.S UT v]),(ah,[.I .i64 0])]):=by
 let ⟨ns,s,E⟩:=Rx.Td _ (Rx.lx<|cV a) (di _) f.mo;let ⟨out,o1,M,o3⟩:=aqt (t:=1500) S f.can f.ne f.l9 f.hA s E<|λso hD hd=>(f.ht hD<|E▸hd).le<|Rx.Jl 1500 (k:=600) A;let ⟨p1,p2,p3,p4⟩:=f.out s E M o3;have g:(jh cR jl (fL out)<|G (fL out)-1).Perm (fL out):=by
  cases bZ:fL out with
  |nil=>exact uY _
  |cons x l=>exact Ig _ _ Ab
 refine⟨_,p4,by rw[zK];exact p2,λx hx=>p3 x<|g.mem_iff.1 hx,?_⟩;refine aD Tryz.func72 ?_;have la:=bX.2 f.ne;have l9:=f.l9;refine e J<|L<|e J<|z J (λh1=>?_)<|λ_=>ai ?_
 .exfalso;have h1:((G a:Z)==0)=ae:=h1;have:=eq_of_beq h1;omega
 refine L<|e J<|z J (λh1=>?_)<|λ_=>ai ?_
 .exfalso;have h1:(G a:Z)-1>12:=az h1;omega
 refine e J<|L<|t<|uE J J o1<|o J ?_;have Gn:G out<=9:=by have h1:=Vh (L:=ns) (G a) 1;rw[<-M,cL]at h1;omega
 refine dc (oN 4001000 J) ?_;refine q<|aK (α:=I) (λi=>⟨[(0,N .q a),(2,.c<|.P 0 0),(4,D 0),(5,.c<|.X 20000000),(20,N UT out),(21,D<|G out),(22,D i)],[(20000000,.vec 80 UT<|fL<|y i out),(0,.box 46 0 [.B ah,.V<|.slice none 0 0,.B ah,.V<|.slice none 0 0])],30,[]⟩) (λi=>i<=G out) (λi=>G out-i) 0 (aW _) ?_ ?_
 .exact r6 20000000 80 UT ⟨.inl<|sR J,.inl<|sR J,.inl<|sE J J,.inr ⟨J,J⟩,.inl<|sE J J,.inl<|sR J,.inl<|sE J J,T⟩ ⟨bE J J,T⟩ J<|eC.of J
 intro i hi;refine e J<|L<|z J (λh1=>?_)<|λh1=>?_
 .have h1:i<G out:=by have h1:(i:Z)<(G out:Z):=az h1;omega
  have F:i+1<=G out:=h1;have H:(Y out (ad<|(i:Z))<|ET.cJ UT)=Y out i cR:=aC (λK=>Y out K cR)<|aV i;let ⟨Q,g2,g3⟩:=p1 (Y out i cR) z8;have n:=arb h1;have p:=aqS Q g2;have R:G (wJ (Y out i cR).1)<=8:=by rw[wJ,cL];exact(aeh Q.mf).1
  refine ai<|L<|q<|e J ?_ (hp:=ak);rw[H];generalize Y out i cR=pr at*;let ⟨U,m⟩:=pr;simp only at Q g2 g3 n p R;generalize wJ U=us at*;refine aO J J p J ?_;refine q<|aK (α:=I) (λb=>⟨[(0,N .q a),(2,.c<|.P 0 0),(4,D 0),(5,.c<|.X 20000000),(7,.c<|.P 31002000 0),(20,N UT out),(21,D<|G out),(22,D i),(28,N (.sl .q) us),(29,D<|G us),(30,D b)],[(20000000,.vec 80 UT<|fL (y i out)++(y b us).map λu=>(u,m)),(31002000,.box 80 0 [.S .q U,.I .i64 m]),(0,.box 46 0 [.B ah,.V<|.slice none 0 0,.B ah,.V<|.slice none 0 0])],40,[]⟩) (λb=>b<=G us) (λb=>G us-b) 0 (aW _) (wk ⟨sR J,sR J,sR J,sR J,sR J,sR J,sR J,sR J,sR J,sR J,sE J J,T⟩ ⟨bE J ?_,bE J J,bR J,T⟩) ?_
  .rw[Bh,wj,iW]
  intro b hj;refine e J<|L<|z J (λd=>?_)<|λd=>?_
  .have d:b<G us:=by have d:(b:Z)<(G us:Z):=az d;omega
   have r:(Y us (ad<|(b:Z))<|ET.cJ<|.sl .q)=us.getD b []:=aC (λK=>us.getD K [])<|aV b;have W:y (b+1) us=y b us++[us.getD b []]:=by rw[mM,aF,bD d];rfl
   have DU:G (fL (y i out)++(y b us).map λu=>(u,m))<=20:=by have:=arc (out:=out) i;rw[fO,cL,il];omega
   refine ai<|L<|q<|e J ?_ (hp:=ak);rw[r];refine bs<|rl UT [(us.getD b [],m)] J J (ra J J J J J J J J J ?_ ?_<|o J<|aT<|rt J (hp:=ak)<|aA (b+1) d (S:G us-(b+1)<G us-b)<|Wk.trans (wk (st':=⟨[(0,N .q a),(2,.c<|.P 0 0),(4,D 0),(5,.c<|.X 42006000),(7,.c<|.P 31002000 0),(20,N UT out),(21,D<|G out),(22,D i),(28,N (.sl .q) us),(29,D<|G us),(30,D (b+1:I))],[(42006000,.vec 80 UT<|fL (y i out)++(y (b+1) us).map λu=>(u,m)),(31002000,.box 80 0 [.S .q U,.I .i64 m]),(0,.box 46 0 [.B ah,.V<|.slice none 0 0,.B ah,.V<|.slice none 0 0])],44,[]⟩) (aS J) ⟨bE J ?_,bR J,bR J,T⟩)<|Wk.trans (fp 20000000 42006000 J J J) aM)
   .show(G (fL (y i out)++(y b us).map λu=>(u,m))+1+(G (fL (y i out)++(y b us).map λu=>(u,m))+1)/4+192)*32<=_;omega
   .show(G (fL (y i out)++(y b us).map λu=>(u,m))+1)*2<=_;omega
   .rw[W,fe,<-jR];rfl
  .have d:b=G us:=by have d:¬(b:Z)<(G us:Z):=aL d;omega
   subst d;rw[eE,<-n];exact aN<|aT<|rt J (hp:=ak)<|aA (i+1) F (S:G out-(i+1)<G out-i) aM
 .have h1:i=G out:=by have h1:¬(i:Z)<(G out:Z):=aL h1;omega
  subst h1;rw[eE];refine aN<|ay ?_;refine t<|nJ 20000000 J (aq1 (w:=20) A _ S p3) J J<|o J ?_;refine dc (oN 20000000 J)<|e J<|bq J ?_;have bZ:ad ((G a:Z)-1)=G a-1:=S;show AV.t [(ae,av .q<|Y a (ad<|(G a:Z)-1) 0),(ah,[C.S UT (jh cR jl (fL out)<|G (fL out)-1)]),(ah,[.I .i64 0])]=_;rw[bZ]
def aex(x:O):js (.a<|y 4<|aE 0<|av .q x)=some (av .q x):=rfl
def ard{n}(Q:n<=100000)(xs:V (O))(R:xs.length<=12)(E:∀x∈xs,QS n x):mR Tryz.prog 213 [.c (.X 0),D 0,D xs.length,l7 79] 46 .q xs (.t []) (jh (0:O) eK xs<|xs.length-1):=by
 refine pB Tryz.func213 J J J J J A ?_;refine e J ?_;refine q<|aK (α:=I) (λi=>⟨[(0,.c<|.X 0),(1,D 0),(2,D xs.length),(3,l7 79),(8,D i)],[(0,.vec 46 .q<|jh (0:O) eK xs<|i-1)],2,[]⟩) (λi=>1<=i/\i-1<=xs.length-1) (λi=>xs.length-i) 1 ⟨a8 _,aW _⟩ (wk (aS J) ⟨bE J J,T⟩) ?_;rintro i ⟨C,U⟩;refine L<|e J<|z J (λh=>?_)<|λh=>?_
 .have h:i<xs.length:=by have h:(i:Z)<(xs.length:Z):=az h;omega
  have F:jh (0:O) eK xs i=qU (0:O) eK i (jh (0:O) eK xs<|i-1):=by obtain⟨m,rfl⟩:∃m,i=m+1:=⟨i-1,S⟩;rfl
  refine ai<|L<|q<|e J ?_;refine q<|aK (α:=I×V (O)) (λx=>⟨[(0,.c<|.X 0),(1,D 0),(2,D xs.length),(3,l7 79),(8,D i),(9,D x.1)],[(0,.vec 46 .q x.2)],4,[]⟩) (λx=>qU (0:O) eK x.1 x.2=jh (0:O) eK xs i/\x.1<=i/\x.2.length=xs.length/\∀k∈x.2,QS n k) (λx=>x.1) (i,jh (0:O) eK xs<|i-1) ⟨F.symm,a8 _,zK xs _,λk p=>E k<|aaT S p⟩ aM ?_;rintro⟨j,b⟩ ⟨d,r,l,f⟩;simp only at d r l f;refine L<|t<|rg 21 J J (λg=>?_)<|λg=>?_
  .have g:0<j:=by have g:(j:Z)>0:=az g;omega
   obtain⟨j,rfl⟩:∃m,j=m+1:=⟨j-1,S⟩;have v:(((j+1:I):Z)).toNat=j+1:=aV _;have B:(((j+1:I):Z)-1).toNat=j:=S;have H:b.getD (j+1) 0∈b:=by rw[BP S];exact j6 _
   have K:b.getD j 0∈b:=by rw[BP S];exact j6 _
   have P:af Tryz.prog 79 ([]++([.a (av .q<|b.getD (((j+1:I):Z)).toNat 0),.a<|av .q<|b.getD (((j+1:I):Z)-1).toNat 0]++[])) (D<|eK (b.getD (j+1) 0)<|b.getD j 0):=by rw[v,B];exact abe _ _ (f _ H) (f _ K) S
   rw[qU]at d;refine Sn J J J J J (.inl ⟨J,J,J⟩) J P (o J<|z J (λh2=>?_)<|λh2=>?_) (hp:=ak)
   .have h2:eK (b.getD (j+1) 0) (b.getD j 0)<0:=az h2;rw[s h2]at d;refine ai (L<|q<|bs<|jx (b.getD j 0) J J J J ?_ ?_ (jx (b.getD (j+1) 0) J J J J ?_ ?_ (o J ?_) (hp:=?_)) (hp:=?_))
    .show js (.a<|y 4<|aE 0<|av .q<|b.getD (((j+1:I):Z)-1).toNat 0)=_;rw[B];exact aex _
    .show(((j+1:I):Z)).toNat<b.length;omega
    .show js (.a<|y 4<|aE 0<|av .q<|b.getD (((j+1:I):Z)).toNat 0)=_;rw[v];exact aex _
    .show(((j+1:I):Z)-1).toNat<(b.set _ _).length;rw[fP];omega
    .refine aT (rt J (hp:=ak)<|aA (j,uX (0:O) b j) ⟨d,(S:j<=i),by rw[If];exact l,λk p=>f k<|(SW S).mem_iff.1 p⟩ ni<|wk ⟨sR J,sR J,sR J,sR J,sR J,⟨_,J,?_⟩,T⟩ ⟨bE J ?_,T⟩)
     .exact a7.of_eq<|gh (S:((j+1:I):Z)-1=(j:Z))
     .show aH.vec 46 .q ((b.set (((j+1:I):Z)).toNat _).set (((j+1:I):Z)-1).toNat _)=_;rw[v,B];rfl
    .show 0<=((j+1:I):Z)-1/\((j+1:I):Z)-1<((b.set _ _).length:Z);rw[fP];omega
    .simp only[Pr.an,Pr.h,num,eO,true_and,and_true];omega
   .have h2:¬eK (b.getD (j+1) 0) (b.getD j 0)<0:=aL h2;rw[M h2]at d;subst d;exact aN<|aT<|rt J (hp:=ak)<|aA (i+1) ⟨S,S⟩ Ew<|wk ⟨sR J,sR J,sR J,sR J,sE J J,T⟩ ⟨bR J,T⟩
  .have g:j=0:=by have g:¬(j:Z)>0:=aL g;omega
   subst g;have d:b=jh (0:O) eK xs i:=d;subst d;exact o J<|z J (λh2=>nl)<|λ_=>aN<|aT<|rt J (hp:=ak)<|aA (i+1) ⟨S,S⟩ Ew<|wk ⟨sR J,sR J,sR J,sR J,sE J J,T⟩ ⟨bR J,T⟩
 .have h:i-1=xs.length-1:=by have h:¬(i:Z)<(xs.length:Z):=aL h;omega
  rw[h];exact aN<|y7 a6 J (a7.refl _) J
def are{a}(d:a<=100000) xs(f:G xs<=12)(g:∀x∈xs,QS a x) b:mR j 147 [.c (.X 0),D 0,D<|G xs,D b,l7 79] 46 .q xs (.t []) (jh (0:O) eK xs<|G xs-1):=by
 refine pB Tryz.func147 J J J J J A ?_;refine e J<|e J ?_;refine q<|aK (α:=Unit) (λ_=>⟨[(0,.c<|.X 0),(1,D 0),(2,D<|G xs),(3,D b),(4,l7 79)],[(0,.vec 46 .q xs)],3,[]⟩) (λ_=>True) (λ_=>0) () T aM ?_;rintro- -;refine q<|e J<|L<|e J<|z J (λh=>?_)<|λh=>?_
 .exact t<|nJ 0 J (ard d xs f g) J J<|o J<|bc<|bt<|eH<|gf<|eH<|s7 a6 J (a7.refl _) J
 .have h:¬((G xs:Z)-0<=12):=aL h;omega
def aey{w}(d:w<=100000) xs(b:G xs<=12)(f:∀x∈xs,QS w x):mR j 78 [.c (.X 0),l7 79] 46 .q xs (.t []) (jh (0:O) eK xs<|G xs-1):=by
 refine pB Tryz.func78 J J J J J A ?_;refine e J ?_;have a:af j 130 [AV.c (num .u64 (G xs:Z)).1] (D<|pD<|G xs):=by rw[show(AV.c (num .u64 (G xs:Z)).1)=cU (G xs:Z)from bA<|wrap_u64 _ S S];exact Lm _ b
 refine bs<|rc J J a<|nJ 0 J (are d xs b f _) J J<|o J<|y7 a6 J (a7.refl _) J
def eZ:V (V O×Z)->V O
 |[]=>[]
 |x::l=>(if G x.1=2 then[-(Y x.1 0 0)]else[])++eZ l
def aez:∀l m,eZ (l++m)=eZ l++eZ m
 |[],m=>rfl
 |x::l,m=>by rw[kU,eZ,eZ,aez l m,jR]
def Fg:∀l,G (eZ l)<=G l
 |[]=>a8 _
 |x::l=>by
  have:=Fg l;rw[eZ,fO,fu];split
  .rw[wK];omega
  .rw[k6];omega
def Cf{r:O}:∀{l:V (V O×Z)},r∈eZ l->∃x∈l,G x.1=2/\r= -(Y x.1 0 0)
 |x::l,a=>by
  rw[eZ]at a;rcases b8.1 a with a|a
  .split at a
   .rename_i b;exact⟨x,ax,b,iu.1 a⟩
   .cases a
  .let ⟨c,h1,b⟩:=Cf a;exact⟨c,zA,b⟩
def aeA{a}(E:kD a):∃fs,lD a fs/\G fs<=8/\(∀x∈fs,oD 20 x)/\af j 24 [N .q a] (N .q<|jh 0 eK (eZ fs)<|G (eZ fs)-1):=by
 let ⟨fs,f1,f2,f3,f4⟩:=OP E;refine⟨fs,f1,f2,f3,?_⟩;have F:=Fg fs;have k:∀r∈eZ fs,QS 20 r:=λr H=>by obtain⟨x,h1,_,rfl⟩:=Cf H;exact((f3 x h1).q 0).neg
 refine aD Tryz.func24 ?_;refine e J<|aO J J f4 J<|e J<|L<|e J ?_;refine q<|aK (α:=I) (λi=>⟨[(6,.c<|.X 20000000),(15,N UT fs),(16,D<|G fs),(17,D i)],[(20000000,.vec 46 .q<|eZ<|y i fs)],30,[]⟩) (λi=>i<=G fs) (λi=>G fs-i) 0 (aW _) ?_ ?_
 .exact r6 20000000 46 .q ⟨.inr ⟨J,J⟩,.inl<|sR J,.inl<|sR J,.inl<|sE J J,T⟩ T J<|eC.of J
 intro i Q;refine e J<|L<|z J (λh1=>?_)<|λh1=>?_
 .have h1:i<G fs:=by have h1:(i:Z)<(G fs:Z):=az h1;omega
  have l:(Y fs (ad<|(i:Z))<|ET.cJ UT)=Y fs i cR:=aC (λK=>Y fs K cR)<|aV i;have p:=f3 (Y fs i cR) z8;have v:y (i+1) fs=y i fs++[Y fs i cR]:=by rw[mM,aF,bD h1];rfl
  have d:eZ (y (i+1) fs)=eZ (y i fs)++(if(Y fs i cR).1.length=2 then[-((Y fs i cR).1.getD 0 0)]else[]):=by rw[v,aez,eZ,eZ,iW]
  have g:=Fg<|y i fs;rw[il]at g;refine ai<|L<|q<|e J ?_ (hp:=ak);rw[l];generalize Y fs i cR=pr at*;let ⟨f,m⟩:=pr;simp only at d;refine e J<|z J (λb=>?_)<|λb=>?_
  .have b:G f=2:=by have b:((G f:Z)==2)=ae:=b;have:=eq_of_beq b;omega
   rw[s b]at d;have B:=p.q 0;have C:=aa' (Y f 0 0)<|B.n.sm S;refine bs ?_;refine rc J J C ?_ (hp:=ak);refine rl .q [-(Y f 0 0)] J J (ra J J J J J J J J J ?_ ?_<|o J<|dy<|ay<|rt J (hp:=ak)<|aA (i+1) h1 Vi<|Wk.trans (wk (st':=⟨[(6,.c<|.X 33007000),(15,N UT fs),(16,D<|G fs),(17,D (i+1:I))],[(33007000,.vec 46 .q<|eZ<|y (i+1) fs)],35,[]⟩) (aS J) ⟨bE J ?_,T⟩)<|Wk.trans (fp 20000000 33007000 J J J) aM)
   .show(G (eZ<|y i fs)+1+(G (eZ<|y i fs)+1)/4+192)*64<=_;omega
   .show(G (eZ<|y i fs)+1)*4<=_;omega
   .rw[d]
  .have b:G f≠2:=λP=>by have b:((G f:Z)==2)=ah:=b;rw[P]at b;cases b
   rw[M b,iW]at d;refine bN<|aT<|rt J (hp:=ak)<|aA (i+1) h1 Vi<|wk (aS J) ⟨bE J ?_,T⟩;rw[d]
 .have h1:i=G fs:=by have h1:¬(i:Z)<(G fs:Z):=aL h1;omega
  subst h1;rw[eE];refine aN<|ay ?_;refine t<|nJ 20000000 J (aey (w:=20) A _ S k) J J<|o J ?_;exact dc (oN 20000000 J)<|e J<|bU J
def OQ n g(b:g≠0)(c:Sm n)(a:Sm g):af j 228 [aZ n,aZ g] (aZ<|n/g):=by refine aD Tryz.func228 ?_;refine e J<|aO J J (DK n g b c a) J<|e J<|bq J ?_;rfl
def Sm.gcd{n d}(f:d≠0)(a:Sm d):Sm ((fh n d:I):Z):=by have b:fh n d<=aq d:=DF _ S;have c:G (aj<|aq<|((fh n d:I):Z))<=G (aj<|aq d):=rJ (by rw[lO];exact b);exact cQ c a
def Sm.ng{a}(b:Sm a):Sm (-a):=by
 have e:de (-a)=de a:=by unfold de;rw[Int.natAbs_neg]
 unfold Sm at*;rw[e];exact b
def Vj n d(f:d≠0)(g:Sm n)(a:Sm d):af j 153 [aZ n,aZ d] (aQ<|iE n d):=by
 refine aD Tryz.func153 ?_;have i:fh n d≠0:=λk=>f (Ba.1 k).2
 let ⟨p1,c⟩:=DE n d f;have b:Sm ((fh n d:I):Z):=Sm.gcd f a;refine e J<|aO J J (Q4 n d g a) J<|L<|t<|rc J J (vV d)<|o J ?_;refine z J (λh=>?_)<|λh=>?_
 .have h:d<0:=by
   have h:cq d<0:=du;unfold cq at h;split at h
   .assumption
   ·(try split at h)<;>omega
  rw[s h]at p1 c;refine bs<|rc J J (GJ _)<|o J<|ay<|t ?_;refine rc J J (OQ n _ S g<|Sm.ng b)<|rc J J (OQ d _ S a<|Sm.ng b)<|o J<|bq J ?_;unfold aQ;simp only[av,p1,c];rfl
 .have h:¬d<0:=by
   have h:¬cq d<0:=du;unfold cq at h;split at h
   .omega
   .assumption
  rw[M h]at p1 c;refine ai<|t ?_;refine rc J J (OQ n _ S g b)<|rc J J (OQ d _ S a b)<|o J<|bq J ?_;unfold aQ;simp only[av,p1,c];rfl
def Vk n d(b:d≠0)(c:Sm n)(a:Sm d):af j 119 [aZ n,aZ d] (.t [(ae,av .q<|iE n d),(ah,[.I .i64 0])]):=by
 refine aD Tryz.func119 ?_;refine e J<|L<|aO J J (vV d) J ?_;refine z J (λh=>?_)<|λh=>?_
 .exfalso;have h:cq d=0:=du;unfold cq at h;split at h
  .omega
  ·(try split at h)<;>omega
 .refine ai<|aO J J (Vj n d b c a) J<|bq J ?_;rfl
def Vl{k}a b(c:QS k a)(f:QS k b)(i:k<=100000000000):af j 82 [aQ a,aQ b] (aQ<|a*b):=by
 refine aD Tryz.func82 ?_;have l:=Am (den_pos a)<|den_pos b;have g:iE (a.num*b.num) ((a.den:Z)*(b.den:Z))=a*b:=by rw[<-Ez,pU,pU]
 rw[<-g];refine e J<|t<|rc J J (lL _ _ (c.n.sm S)<|f.n.sm S)<|rc J J (lL _ _ (c.d.sm S)<|f.d.sm S)<|rc J J (Vj _ _ S ((c.n.mul f.n).sm S)<|(c.d.mul f.d).sm S)<|o J<|bq J ?_;rfl
def arf{k}a b(c:QS k a)(f:QS k b)(r:k<=100000000000):af j 121 [aQ a,aQ b] (aQ<|a+b):=by
 refine aD Tryz.func121 ?_;have g:=c.n.mul f.d;have i:=f.n.mul c.d;have l:=c.d.mul f.d;have m:=g.add i;have v:=Am (den_pos a)<|den_pos b;have p:iE (a.num*(b.den:Z)+b.num*(a.den:Z)) ((a.den:Z)*(b.den:Z))=a+b:=by have x:=den_pos a;have B:=den_pos b;rw[<-Rat.divInt_add_divInt _ _ S S,pU,pU]
 rw[<-p];refine e J<|t<|rc J J (lL _ _ (c.n.sm S)<|f.d.sm S)<|rc J J (lL _ _ (f.n.sm S)<|c.d.sm S)<|rc J J (zc _ _ (g.sm S)<|i.sm S)<|rc J J (lL _ _ (c.d.sm S)<|f.d.sm S)<|rc J J (Vj _ _ S (m.sm S)<|l.sm S)<|o J<|bq J ?_;rfl
def arh a:af j 56 [aQ a] (aQ<| -a):=by refine aD Tryz.func56 ?_;refine e J<|aO J J (GJ a.num) J<|bq J ?_;rfl
def ari{k}a b(c:QS k a)(f:QS k b)(g:k<=100000000000):af j 55 [aQ a,aQ b] (D<|cX (a.num*(b.den:Z))<|b.num*(a.den:Z)):=by refine aD Tryz.func55 ?_;refine e J<|t<|rc J J (lL _ _ (c.n.sm S)<|f.d.sm S)<|rc J J (lL _ _ (f.n.sm S)<|c.d.sm S)<|rc J J (KP _ _)<|o J<|bU J
def arj{k}a b(g:b.num≠0)(c:QS k a)(f:QS k b)(m:k<=100000000000):af j 51 [aQ a,aQ b] (.t [(ae,av .q<|a/b),(ah,[.I .i64 0])]):=by
 refine aD Tryz.func51 ?_;have i:(a.den:Z)*b.num≠0:=DG (by have:=den_pos a;omega) g;have l:iE (a.num*(b.den:Z)) ((a.den:Z)*b.num)=a/b:=by rw[<-Ez,pU,BW];congr 1;conv=>rhs;rw[<-pU b,Rat.inv_divInt]
 rw[<-l];refine e J<|t<|rc J J (lL _ _ (c.n.sm S)<|f.d.sm S)<|rc J J (lL _ _ (c.d.sm S)<|f.n.sm S)<|rc J J (Vk _ _ i ((c.n.mul f.d).sm S)<|(c.d.mul f.n).sm S)<|o J<|bq J ?_;rfl
def ark a(d:Sm a):af j 120 [aZ a] (cB ae):=by
 refine aD Tryz.func120 ?_;have f:G (aj<|aq a)<=1099511627776:=d;have b:G (de a)<=1099511627776:=d;refine e J<|e J<|L<|e J<|z J (λh=>?_)<|λh=>ai ?_
 .have h:(G (aj<|aq a):Z)=0:=eq_of_beq h;have i:a=0:=by have:¬0<G (aj<|aq a):=S;rw[mU]at this;omega
  subst i;exact e J<|bc<|bt<|atR J
 .have h:(G (aj<|aq a):Z)≠0:=fT h;have g:0<G (de a):=by show 0<G (aj<|aq a);omega
  refine e J (hp:=ak)<|bq J ?_;have k:=ud<|aq a;refine aC cB ?_;rcases k with c|c
  .rw[c]at h;simp at h
  .show(Y (aj<|aq a) (ad<|(G (aj<|aq a):Z)-1) 0 !=0)=ae;rw[(S:ad ((G (aj<|aq a):Z)-1)=G (aj<|aq a)-1)];simpa using c
def aeB a b(g:Sm a):af j 76 [aZ a,aZ b] (cB<|decide<|a=b):=by
 refine aD Tryz.func76 ?_;have g:G (de a)<=1099511627776:=g;refine rr J<|L<|t<|rg 11 J J (λh=>?_)<|λh=>?_
 .have h:bK a≠bK b:=Nm.1 h;refine o J<|z J (λ_=>rr J<|bc<|bt<|c9 J<|aC cB ?_)<|λh2=>nl;rw[iX (λe=>h oV)]
 .have h:bK a=bK b:=by
   have h:¬(bK a !=bK b)=ae:=by rw[h];decide
   rw[Nm]at h;exact Decidable.not_not.1 h
  refine o J<|z J (λh2=>?_)<|λh2=>ai ?_
  .have h2:=nN h2;refine rr J<|bc<|bt<|c9 J<|aC cB ?_;rw[iX (λe=>h2 oV)]
  .have h2:=nO h2;refine L<|rr J<|q<|aK (α:=I) (λi=>⟨[(2,.c<|.P 0 0),(3,.c<|.P 1000 0),(5,D i)],[(0,.box 44 0<|av .z a),(1000,.box 44 0<|av .z b)],4,[]⟩) (λi=>i<=G (de a)/\y i (de a)=y i (de b)) (λi=>G (de a)-i) 0 ⟨aW _,ax⟩ (wk (aS J) ⟨bE J J,bE J J,T⟩) ?_;rintro i ⟨k,ht⟩;refine L (rr J<|z J (λd=>?_)<|λd=>?_)
   .have d:i<G (de a):=by have d:(i:Z)<(G (de a):Z):=az d;omega
    refine ai<|L<|q<|rr J (hp:=ak)<|z J (λf=>?_)<|λf=>bN<|aT ?_
    .have f:Y (de a) i 0≠Y (de b) i 0:=nN f;refine rr J<|bc ?_;repeat(first|refine bt ?_|refine eH ?_|refine gf ?_)
     refine c9 J<|aC cB ?_;rw[iX (λe=>f oV)]
    .have f:Y (de a) i 0=Y (de b) i 0:=nO f;exact rt J<|aA (i+1) ⟨d,by rw[jK _ i d,jK _ i S,ht,f]⟩ (S:G (de a)-(i+1)<G (de a)-i)<|wk (aS J) ⟨bE J J,bE J J,T⟩
   .have d:i=G (de a):=by have d:¬(i:Z)<(G (de a):Z):=aL d;omega
    subst d;rw[eE,iI S]at ht;refine aN<|ay<|rr J<|bq J<|aC cB ?_;rw[jU (abT h ht)]
def OR{k}a b(g:QS k a)(i:k<=100000000000):af j 20 [aQ a,aQ b] (cB<|decide<|a=b):=by
 refine aD Tryz.func20 ?_;refine e J<|t<|rc J J (aeB a.num b.num<|g.n.sm S)<|rg 10 J J (λh=>?_)<|λh=>?_
 .have h:a.num=b.num:=az h;refine eI J J J J J (aeB (a.den:Z) (b.den:Z)<|g.d.sm S)<|o J<|bq J ?_;refine aC cB ?_;by_cases c:(a.den:Z)=(b.den:Z)
  .rw[jU c,jU<|Rat.ext h S];rfl
  .rw[iX c,iX<|λf=>c<|by rw[f]];rfl
 .have h:¬a.num=b.num:=aL h;refine o J<|bq J ?_;refine aC cB ?_;rw[iX (λf=>h<|by rw[f])]
def Vm(xs:V O)(f:G xs<=1000000):af Tryz.prog 179 [N .q xs] (N .q<|dV xs):=by
 refine aD Tryz.func179 ?_;refine e J<|e J ?_;refine L<|q<|aK (α:=I) (λk=>⟨[(0,N .q xs),(3,D k)],[],2,[]⟩) (λk=>k<=G xs/\gD xs k=gD xs (G xs)) (λk=>k) (G xs) ⟨a8 _,J⟩ aM ?_;rintro k ⟨g,a⟩;have b:gD xs k=k->a7 (N .q<|y k xs) (N .q<|dV xs):=λc=>by refine a7.of_eq ?_;unfold dV;rw[<-a,c]
 refine L<|t ?_;refine rg 8 J J (λh=>?_)<|λh=>?_
 .have h:0<k:=by have h:(k:Z)>0:=az h;omega
  obtain⟨j,rfl⟩:∃j,k=j+1:=⟨k-1,S⟩;have d:ad (((j+1:I):Z)-1)=j:=S;refine eI J J J J J (K5<|Y xs (ad<|((j+1:I):Z)-1) 0) (o J ?_) (hp:=iM);refine z J (λh2=>?_)<|λh2=>?_
  .have h2:(Y xs j 0).num=0:=by have h2:cq (Y xs (ad<|((j+1:I):Z)-1) 0).num=0:=eq_of_beq h2;rw[d]at h2;exact tE.1 h2
   refine ai<|q<|rt J (dy<|aA j ⟨S,?_⟩ ni<|wk ⟨sR J,sE J ?_,T⟩ T) (hp:=iM)
   .rw[<-a,gD,s h2]
   .exact gh (S:((j+1:I):Z)-1=(j:Z))
  .have h2:(Y xs j 0).num≠0:=by have h2:cq (Y xs (ad<|((j+1:I):Z)-1) 0).num≠0:=fT h2;rw[d]at h2;exact λc=>h2 (tE.2 c)
   exact aN<|ay<|e J (bc<|g8 a6 J<|b<|by rw[gD,M h2]) (hp:=ak)
 .have h:k=0:=by have h:¬(k:Z)>0:=aL h;omega
  subst h;exact o J<|z J (λh2=>nl)<|λ_=>aN<|ay<|e J (bc<|g8 a6 J<|b J) (hp:=ak)
def aeC(a:V O)(i:I):af j 178 [N .q a,D i] (aQ<|Y a i 0):=by
 refine aD Tryz.func178 ?_;refine e J<|L<|e J<|z J (λh=>?_)<|λh=>?_
 .have h:i<G a:=by have h:(i:Z)<(G a:Z):=az h;omega
  refine e J (hp:=ak)<|bc<|bt<|c9 J ?_;rfl
 .have h:¬i<G a:=by have h:¬(i:Z)<(G a:Z):=aL h;omega
  refine ai<|aO J J (A' 0 A A) J<|bq J ?_;rw[Rx.kv a S];rfl
def arl(xs:V O)(i:G xs<=1000000):Eg Tryz.prog 179 [.c (.X 2002000)] [(2002000,.vec 46 .q xs)] (N .q<|dV xs):=by
 refine ZK 3 Tryz.func179 J J J (λl d=>by rw[iu.1 d];decide) (eC.of J) J A ?_;refine dc (oN 2002000 J) ?_;refine e J<|e J ?_;refine L<|q<|aK (α:=I) (λk=>⟨[(0,N .q xs),(3,D k)],[],5,[]⟩) (λk=>k<=G xs/\gD xs k=gD xs (G xs)) (λk=>k) (G xs) ⟨a8 _,J⟩ aM ?_;rintro k ⟨m,a⟩;have b:gD xs k=k->a7 (N .q<|y k xs) (N .q<|dV xs):=λf=>by refine a7.of_eq ?_;unfold dV;rw[<-a,f]
 refine L<|t ?_;refine rg 8 J J (λh=>?_)<|λh=>?_
 .have h:0<k:=by have h:(k:Z)>0:=az h;omega
  obtain⟨j,rfl⟩:∃j,k=j+1:=⟨k-1,S⟩;have g:ad (((j+1:I):Z)-1)=j:=S;refine eI J J J J J (K5<|Y xs (ad<|((j+1:I):Z)-1) 0) (o J ?_) (hp:=iM);refine z J (λh2=>?_)<|λh2=>?_
  .have h2:(Y xs j 0).num=0:=by have h2:cq (Y xs (ad<|((j+1:I):Z)-1) 0).num=0:=eq_of_beq h2;rw[g]at h2;exact tE.1 h2
   refine ai<|q<|rt J (dy<|aA j ⟨S,?_⟩ ni<|wk ⟨sR J,sE J ?_,T⟩ T) (hp:=iM)
   .rw[<-a,gD,s h2]
   .exact gh (S:((j+1:I):Z)-1=(j:Z))
  .have h2:(Y xs j 0).num≠0:=by have h2:cq (Y xs (ad<|((j+1:I):Z)-1) 0).num≠0:=fT h2;rw[g]at h2;exact λf=>h2 (tE.2 f)
   exact aN<|ay<|e J (bc<|Sg a6 J<|b<|by rw[gD,M h2]) (hp:=ak)
 .have h:k=0:=by have h:¬(k:Z)>0:=aL h;omega
  subst h;exact o J<|z J (λh2=>nl)<|λ_=>aN<|ay<|e J (bc<|Sg a6 J<|b J) (hp:=ak)
def mJ(a:V O):V O:=dV<|0::a
def aeD(a:V O)(c:G a<=1000):af j 117 [N .q a] (N .q<|mJ a):=by
 refine aD Tryz.func117 ?_;refine e J<|t<|rc J J (A' 0 A A)<|gR .q [((0:Z):O)] J J (o J ?_);refine t<|ra J J J J J J J J J ?_ ?_<|rcc (conc:=[]) (fm:=[(2002000,.vec 46 .q<|((0:Z):O)::a)]) J J (arl _ Ab) (λd b h=>rfl)<|o J<|bU J
 .show(1+G a+(1+G a)/4+192)*64<=_;omega
 .show(1+G a)*4<=_;omega
def qe(a b:V O):V O:=dV<|(be<|max (G a)<|G b).map λi=>Y a i 0+Y b i 0
def sr(c:O)(b:V O):V O:=dV<|(be<|G b).map λi=>c*Y b i 0
def Vn(f:I->O) i:(be<|i+1).map f=(be i).map f++[f i]:=by rw[nE,fe];rfl
def Vo{k}c b(n:G b<=1000)(d:QS k c)(f:∀i,QS k (Y b i 0))(g:k<=100000000000):af j 118 [aQ c,N .q b] (N .q<|sr c b):=by
 refine aD Tryz.func118 ?_;refine e J<|t<|gR .q [] J J (o J<|L<|e J ?_);refine q<|aK (α:=I) (λi=>⟨[(1,N .q b),(2,.c<|.P 0 0),(5,.c<|.X 1000000),(6,D i)],[(0,.box 46 0<|av .q c),(1000000,.vec 46 .q<|(be i).map λi=>c*Y b i 0)],10,[]⟩) (λi=>i<=G b) (λi=>G b-i) 0 (aW _) (wk ⟨sR J,sR J,sR J,sE J J,T⟩<|jv J) ?_;intro i p;have l:G ((be i).map λi=>c*Y b i 0)=i:=ax;refine L<|e J<|z J (λh=>?_)<|λh=>?_
 .have h:i<G b:=by have h:(i:Z)<(G b:Z):=az h;omega
  have m:ad ((i:Z))=i:=aV i;have a:=Vl c (Y b (ad<|(i:Z)) 0) d (f _) g;refine ai<|L<|q<|bs ?_;refine rc J J a ?_ (hp:=ak);refine rl .q [c*Y b (ad<|(i:Z)) 0] J J (ra J J J J J J J J J ?_ ?_<|o J<|dy<|ay<|rt J (hp:=ak)<|aA (i+1) h (S:G b-(i+1)<G b-i)<|Wk.trans (wk (st':=⟨[(1,N .q b),(2,.c<|.P 0 0),(5,.c<|.X 11008000),(6,D (i+1:I))],[(0,.box 46 0<|av .q c),(11008000,.vec 46 .q<|(be<|i+1).map λi=>c*Y b i 0)],13,[]⟩) (aS J) ⟨bR J,bE J ?_,T⟩)<|Wk.trans (fp 1000000 11008000 J J J) aM)
  .show(G ((be i).map λi=>c*Y b i 0)+1+(G ((be i).map λi=>c*Y b i 0)+1)/4+192)*64<=_;omega
  .show(G ((be i).map λi=>c*Y b i 0)+1)*4<=_;omega
  .rw[Vn,m]
 .have h:i=G b:=by have h:¬(i:Z)<(G b:Z):=aL h;omega
  subst h;exact jS<|lJ<|kF<|jT<|ay<|dc (oN 1000000 J)<|t<|rc J J (Vm _ S)<|o J<|bc<|atR J
def Vp{k}a b(r:G a<=1000)(v:G b<=1000)(g:∀i,QS k (Y a i 0))(l:∀i,QS k (Y b i 0))(m:k<=100000000000):af j 116 [N .q a,N .q b] (N .q<|qe a b):=by
 refine aD Tryz.func116 ?_;refine e J<|t<|gR .q [] J J (o J<|L<|e J ?_);obtain⟨M,f⟩:∃M,M=max (G a) (G b):=⟨_,J⟩;have n:(if(G a:Z)<(G b:Z)then(G b:Z)else(G a:Z))=(M:Z):=by rw[f];split<;>omega
 refine q<|aK (α:=I) (λi=>⟨[(0,N .q a),(1,N .q b),(5,.c<|.X 1000000),(6,D i)],[(1000000,.vec 46 .q<|(be i).map λi=>Y a i 0+Y b i 0)],10,[]⟩) (λi=>i<=M) (λi=>M-i) 0 (aW _) (wk ⟨sR J,sR J,sR J,sE J J,T⟩ ⟨bR J,T⟩) ?_;intro i x;have p:G ((be i).map λi=>Y a i 0+Y b i 0)=i:=ax;refine L<|e J<|z J (λh=>?_)<|λh=>?_
 .have h:i<M:=by have h:(i:Z)<_:=az h;rw[s J]at h;split at h<;>omega
  have d:=arf (Y a i 0) (Y b i 0) (g i) (l i) m;refine ai<|L<|q<|bs ?_;refine rc J J (aeC a i)<|rc J J (aeC b i)<|rc J J d ?_;refine rl .q [Y a i 0+Y b i 0] J J (ra J J J J J J J J J ?_ ?_<|o J<|dy<|ay<|rt J (hp:=ak)<|aA (i+1) h xu<|Wk.trans (wk (st':=⟨[(0,N .q a),(1,N .q b),(5,.c<|.X 11009000),(6,D (i+1:I))],[(11009000,.vec 46 .q<|(be<|i+1).map λi=>Y a i 0+Y b i 0)],13,[]⟩) (aS J) ⟨bE J ?_,T⟩)<|Wk.trans (fp 1000000 11009000 J J J) aM)
  .show(G ((be i).map λi=>Y a i 0+Y b i 0)+1+(G ((be i).map λi=>Y a i 0+Y b i 0)+1)/4+192)*64<=_;omega
  .show(G ((be i).map λi=>Y a i 0+Y b i 0)+1)*4<=_;omega
  .rw[Vn]
 .have h:i=M:=by have h:¬(i:Z)<_:=aL h;rw[s J]at h;split at h<;>omega
  subst h;subst f;exact jS<|lJ<|kF<|jT<|ay<|dc (oN 1000000 J)<|t<|rc J J (Vm _ S)<|o J<|bc<|atR J
def Ad l i:Y (dV l) i 0=Y l i 0:=by have:=aC (λA:Rx=>A i)<|Rx.vp l;exact this
def aeE(f:I->O) n i:Y ((be n).map f) i 0=if i<n then f i else 0:=by
 rw[aF,gj];by_cases h:i<n
 .rw[jW h,s h];rfl
 .rw[lG bP,M h];rfl
def OS a b i:Y (qe a b) i 0=Y a i 0+Y b i 0:=by
 rw[qe,Ad,aeE];split
 .rfl
 .rw[Rx.kv a S,Rx.kv b S,pV]
def Fh c b i:Y (sr c b) i 0=c*Y b i 0:=by
 rw[sr,Ad,aeE];split
 .rfl
 .rw[Rx.kv b S,jA]
def aeF a i:Y (mJ a) i 0=Y (0::a) i 0:=Ad _ i
def arn a b:Rx.lx (qe a b)=Rx.lx a+Rx.lx b:=Rx.ext λi=>OS a b i
def aeG c b:Rx.lx (sr c b)=Rx.K c*Rx.lx b:=Rx.ext λi=>by rw[Rx.iQ];exact Fh c b i
def aro a:Rx.lx (mJ a)=Rx.X 1*Rx.lx a:=by rw[mJ,Rx.vp,Rx.Is,Rx.l3,Rx.zero_add]
def arp l:G (dV l)<=G l:=UK
def Js(a b:V O):I->V O
 |0=>[]
 |c+1=>qe (mJ<|Js a b c)<|sr (Y a (G a-1-c) 0) b
def aeH(a:V O){b}(c:b<G a):aE (G a-(b+1)) a=Y a (G a-1-b) 0::aE (G a-b) a:=by rw[lY (S:G a-(b+1)<G a),(S:G a-(b+1)+1=G a-b),aF,bD (S:G a-1-b<G a)];simp only[(S:G a-(b+1)=G a-1-b)];rfl
def aeI(a b:V O):∀c,c<=G a->Rx.lx (Js a b c)=Rx.lx (aE (G a-c) a)*Rx.lx b
 |0,_=>by rw[Js,wb,BO,Rx.tH,Rx.zero_mul]
 |c+1,d=>by rw[Js,arn,aro,aeG,aeI a b c S,aeH a S,Rx.Is,Rx.add_mul,Rx.mul_assoc,Rx.add_comm]
def ss(a:V O)(x:O):I->O
 |0=>0
 |b+1=>ss a x b*x+Y a (G a-1-b) 0
open Rx
def rL(a:V (V O×Z)):V O:=jh 0 eK (eZ a)<|G (eZ a)-1
def Jt fs:(rL fs).Perm (eZ fs):=by
 unfold rL;cases e:eZ fs with
 |nil=>exact uY _
 |cons x l=>exact Ig _ _ Ab
def Ju r:lx [-r,1]=X 1-K r:=by rw[Is,abl,l4,mul_one,zy,sub_def,add_comm]
def Vq r:sz (X 1-K r)=2:=by rw[<-Ju,dH<|.inr OT];rfl
def arq r:Mo (X 1-K r):=by rw[Mo,Vq,<-Ju];rfl
def aeJ r:bw (X 1-K r):=adQ<|Vq r
def OU{a:V O}(f:G a=2)(b:Y a (G a-1) 0=1):a=[Y a 0 0,1]:=by
 match a,f with
 |[c,d],_=>
  have b:d=1:=b
  rw[b];rfl
def ars{a}(f:a≠[]) b(c:bY a):b∣lx (cV a)↔b∣lx a:=by let ⟨d,h2⟩:=Jk a;exact⟨λh=>dvd_trans h<|h2 c,λh=>dvd_trans h d⟩
def Vr{Q:Rx}(a:bw Q):∀{l:V (V O×Z)},Q∣fK l->∃x∈l,Q∣lx x.1
 |[],b=>absurd b a.uU
 |x::l,b=>by
  rw[fK]at b;rcases a.nq b with c|c
  .exact⟨x,ax,(a.pk c).2⟩
  .let ⟨d,h1,h2⟩:=Vr a c;exact⟨d,zA,h2⟩
def aeK{x:V O×Z}(b:G x.1=2):∀{l:V (V O×Z)},x∈l->-(Y x.1 0 0)∈eZ l
 |c::l,a=>by
  rw[eZ];rcases df.1 a with rfl|a
  .rw[s b];simp
  .exact jo _<|aeK b a
section
variable{a:V O}{fs:V (V O×Z)}
def art(l:bY a)(m:a≠[])(c:lD a fs) r:r∈rL fs↔X 1-K r∣lx a:=by
 rw[(Jt fs).mem_iff,<-ars m _ l,<-c.prod];constructor
 .intro n;obtain⟨x,b,d,rfl⟩:=Cf n;let ⟨f,g,i⟩:=c.ok x b;have e:=OU d f;have:=Vf b i;rw[e]at this;rwa[<-Ju,Fi]
 .intro p;let ⟨x,b,d⟩:=Vr (aeJ r) p;let ⟨f,g,i⟩:=c.ok x b;let ⟨c1,v⟩:=Ac f;have e:=(aeJ r).eq g (arq r) v d;rw[<-Ju]at e;have k:=BR (.inr OT) c1 e;have:=aeK (x:=x) (by rw[<-k];rfl) b;rw[<-k]at this;have B: -Y ([-r,1]:V O) 0 0=r:=by show- -r=r;exact Fi r
  rwa[B]at this
def aeL:∀{l:V (V O×Z)},(∀x∈l,Y x.1 (G x.1-1) 0=1)->l.Pairwise (λx b=>x.1≠b.1)->(eZ l).Nodup
 |[],_,_=>wu
 |x::l,c,hp=>by
  let ⟨p1,g⟩:=im.1 hp;have d:=aeL (λb hy=>c b mV) g;rw[eZ];split
  .rename_i i;refine yD.2 ⟨λk=>?_,d⟩;let ⟨b,f,m,n⟩:=Cf k;refine p1 b f ?_;rw[OU i (c x ax),OU m<|c b<|by simp[f]];have:Y x.1 0 0=Y b.1 0 0:=by rw[<-Fi (Y x.1 0 0),n,Fi]
   rw[this]
  .exact d
def aeM(b:lD a fs):(rL fs).Nodup:=(Jt fs).nodup_iff.2<|aeL (λx c=>(b.ok x c).1) b.oY
def Vs(i:lD a fs){b}(g:b+1<G (rL fs)):Y (rL fs) b 0<Y (rL fs) (b+1) 0:=by
 have m:G (rL fs)=G (eZ fs):=by unfold rL;rw[zK]
 have c:=SX (d:=(0:O)) OL (eZ fs) (G (eZ fs)-1) S b S;have c:0<=eK (Y (rL fs) (b+1) 0) (Y (rL fs) b 0):=c;have k:Y (rL fs) b 0≠Y (rL fs) (b+1) 0:=by have:=vi.1 (aeM i) b (b+1) S g S;rw[aF,bD S,aF,bD g];exact this
 have l:¬Y (rL fs) (b+1) 0<Y (rL fs) b 0:=λf=>by rw[eK,s f]at c;omega
 exact Rat.lt_of_le_of_ne (Fb.1 l) k
def aeN{d:Type}:∀{l m:V d},l.Nodup->(∀x∈l,x∈m)->G l<=G m
 |[],_,_,_=>aW _
 |x::l,m,f,c=>by
  let ⟨g,i⟩:=yD.1 f;obtain⟨s,t,rfl⟩:=yE<|c x ax;have:=aeN (m:=s++t) i λy hy=>by
   have b:=c y mV;rcases b8.1 b with b|b
   .exact fC _ b
   .rcases df.1 b with b|b
    .exact absurd (b▸hy) g
    .exact jo _ b
  simp only[fO,fu]at this⊢;omega
def aeO(a:V O)(x:O):∀b,b<=G a->∃Q,lx (aE (G a-b) a)=Q*(X 1-K x)+K (ss a x b)
 |0,_=>⟨0,by rw[wb,BO,tH,ss,l3,zero_mul,zero_add]⟩
 |b+1,d=>by let ⟨Q,c⟩:=aeO a x b S;refine⟨X 1*Q+K (ss a x b),?_⟩;rw[aeH a S,Is,c,ss,pE,eS,add_mul,mul_add,mul_sub (K<|ss a x b) (X 1)<|K x,mul_comm (K<|ss a x b)<|X 1];have e:X 1*Q*(X 1-K x)=X 1*(Q*(X 1-K x)):=mul_assoc _ _ _;rw[e];generalize X 1*(Q*(X 1-K x))=A;generalize X 1*K (ss a x b)=B;generalize K (ss a x b)*K x=C;generalize K (Y a (G a-1-b) 0)=D;rw[sub_def];have:A+(B+ -C)+(C+D)=A+B+D+(C+ -C):=eT;rw[this,add_neg,add_zero];ac_rfl
def aeP a x:ss a x (G a)=0↔X 1-K x∣lx a:=by
 let ⟨Q,b⟩:=aeO a x (G a)<|a8 _;rw[gx,rI]at b;constructor
 .intro h;exact⟨Q,by rw[b,h,l3,add_zero]⟩
 .intro c;rw[b]at c;have d:=uR c<|dvd_mul_left _ _;have f:=rY d (by rw[Vq];have:=D7<|ss a x<|G a;omega);exact L9<|f.trans l3.symm
end
def aru{a}(n:bY a)(l:a≠[]){f B}(x:0<f)(m:∀i,∃b:Z,aq b<=B/\((f:I):O)*Y a i 0=(b:O)):∃c,c<=B/\CD c B (lx<|cV a):=by
 have g:((f:I):O)≠0:=x9 S;let ⟨w,w1,d⟩:=m<|G a-1;have p:=n.ne l;have r:w≠0:=λe=>by
  rw[e]at d;rcases zM.1 d with e|e
  .exact g e
  .exact p e
 refine⟨aq w,w1,⟨S,λi=>?_⟩⟩;let ⟨b,v,h2⟩:=m i;rw[z' l,iQ,kQ];rcases Int.lt_or_gt_of_ne r with k|k
 .refine⟨-b,S,?_⟩;have e:((aq w:I):O)= -(w:O):=by rw[<-sc,(S:((aq w:I):Z)= -w),Ot]
  rw[e,Ot,<-h2,<-d];grind
 .refine⟨b,v,?_⟩;have e:((aq w:I):O)=(w:O):=by rw[<-sc,(S:((aq w:I):Z)=w)]
  rw[e,<-h2,<-d];grind
def arv{a}(g:bY a)(l:a≠[])(p:G a<=9){D}(r:0<D)(f:D<=2^22)(n:∀i,∃d:Z,aq d<=2^22/\((D:I):O)*Y a i 0=(d:O)):kD a:=by
 have b:∀{m:I},m<=2^22->m<=2^1500:=λh=>cQ h<|Rx.Jl 1500 (k:=22) A
 let ⟨c,c1,v⟩:=aru g l r n;refine⟨g,l,p,⟨(D:Z),S,b f,λi=>?_⟩,⟨c,22,22,v,c1,A,S⟩⟩;let ⟨d,x,h2⟩:=n i;exact⟨d,b x,h2⟩
def arw x:(cf x).num.natAbs<=6/\((cf x).den=1\/(cf x).den=3):=by
 have a:=Lb x;unfold cf;split
 .generalize x.tmod 7=t at a;have h:t= -6\/t= -5\/t= -4\/t= -3\/t= -2\/t= -1\/t=0\/t=1\/t=2\/t=3\/t=4\/t=5\/t=6:=S;rcases h with h|h|h|h|h|h|h|h|h|h|h|h|h<;>subst h<;>decide+kernel
 .refine⟨?_,.inl J⟩;show aq (x.tmod 7)<=6;omega
def Vt l a:G (jd l a)<=a+1/\(∀i,(Y (jd l a) i 0).num.natAbs<=6)/\(∀i,(Y (jd l a) i 0).den=1\/(Y (jd l a) i 0).den=3)/\True:=by
 have b:∀i,(Y (jd l a) i 0).num.natAbs<=6/\((Y (jd l a) i 0).den=1\/(Y (jd l a) i 0).den=3):=λi=>by
  rw[jd,Ad,aF,gj];cases(y (a+1) l)[i]? with
  |none=>exact⟨A,.inl J⟩
  |some x=>exact arw x
 refine⟨?_,λi=>(b i).1,λi=>(b i).2,T⟩;have:=arp<|(y (a+1) l).map cf;rw[cL,il]at this;unfold jd;omega
def arx l a i:∃d:Z,aq d<=18/\((3:I):O)*Y (jd l a) i 0=(d:O):=by
 let ⟨_,f,c,_⟩:=Vt l a;have f:=f i;have c:=c i;generalize Y (jd l a) i 0=r at*;have b:=IB r;rcases c with e|e
 .refine⟨3*r.num,S,?_⟩;rw[e]at b;rw[iF,<-b];show(3:O)*r=(3:O)*(1*r);grind
 .refine⟨r.num,S,?_⟩;rw[e]at b;exact b
def ary l a:bY (jd l a):=sn _
def OV{l}{most}(c:most<=8)(a:jd l most≠[]):kD (jd l most):=by
 refine arv (ary l most) a (by have:=(Vt l most).1;omega) (D:=3) A A λi=>?_
 let ⟨z,b,h2⟩:=arx l most i;exact⟨z,cQ b A,h2⟩
def arz l a i:QS 1 (Y (jd l a) i 0):=by let ⟨_,b,c,_⟩:=Vt l a;have b:=b i;have c:=c i;exact⟨aw.one S,aw.one S⟩
end Go.El
