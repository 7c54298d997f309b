/- Contract: the field's inverse. Own work; no condition. -/
import Derived.OpenShut
import Derived.SizedLaws
import Derived.Test.YtceihkmakfdcnaaGreatH14
import Derived.Test.YtceihkmakfdcnaaGreatH13
import Derived.Test.YtceihkmakfdcnaaGreatH1
set_option linter.all false
set_option maxHeartbeats 16000000
set_option maxRecDepth 100000
open Bool renaming false->ah,true->ae
open Go renaming Program->bS,TypeId->dM,Value->aO,DataW->zg
open Go.Addr renaming add->Uh
open Go.DataW renaming trod->ly,weightsEach->Bz,weightsAll->NI,weights->Ui
open Go.El renaming rr->I,cS->N,ar5->c,jg->M,re->j,cI->y,rb->R,vK->r
open Go.Proofs.Tryz renaming prog->z
open Int renaming natAbs->aA
open List renaming length->Z,replicate->bg,mapM_nil->aeM,drop->az,range->cd
open Option renaming some->ad
open _root_ renaming List->V,Nat->Y
namespace Go.El
open Go Go.Proofs Go.RowKit Rx
def Ip:lx [1]=1:=Ds 1
def ND:bF [(1:Rat)]:= .inr (T:(1:Rat)≠0)
def Ep n t(a:1<=n):Pz n t [1]:=⟨ND,a,by rw[Ds];exact Ht.one<|iA T⟩
def aqx{m}(d:bF m):dO m [1]=m:=ph (Dy _ _) d (by have:=yC d ND T (a:=m) (by rw[Ip];exact⟨lx m,(Rx.mul_one _).symm⟩);rw[Ip,Rx.mul_one]at this;exact this.symm)
def aqy{m a}(e:bF m)(f:bl (lx m))(d:bF a)(g:a≠[])(i:Z a<Z m):Co (lx m) (lx a):=by
 rcases f.or (lx a)with h|h
 .have:=iK h<|yB d g;rw[fj e,fj d]at this;omega
 .exact h
structure Uf(a m i:V Rat)(d:Y):Prop where
 pz:Pz 12 d i
 len:i.length<m.length
 eq:lx m∣lx i*lx a-1
def aqz{s t B W}(x:s<=100000000){a m}(F:Pz 12 t a)(f:Pz 12 t m)(hI:bl (lx m))(a0:a≠[])(hl:Z a<Z m)(hB:(t+1)*3^Z m<=B)(hw:(4*t+5+6*B)*2^(Z m+1)<=W)(hS:450*(W+4*B+6)<32*s):
  ∃u v,Uf a m u (W+401*B)/\r z 63 [N .q a,N .q m] (.t [(ah,[.S .q [1]]),(ah,[.S .q u]),(ah,[.S .q v])]):=by
 have p:m≠[]:=λe=>by subst e;cases hl
 have uk:=cv.2 p
 have PO:=cv.2 a0
 have M:Z a+1-Z m<=0:=O
 have p3:0<3^Z m:=iA T
 have htB:t+1<=B:=bQ (ye _ p3) hB
 have R:cN a m=a:=by rw[cN,ao hl]
 let ⟨c1,c2,c3,c4,c5,c6⟩:=aeB (s:=s) (l:=1) (w:=t) (d:=0) F f p (u:=[1]) (n:=[]) ((Ep 1 t T)) (Pz.nil 1 t) M T T x O
 rw[LL,iR]at c5 c6
 have V:Z (da<|cN a m)<Z m:=by rw[R,AL F.can];exact hl
 let ⟨r1,I,Y⟩:=aeC x (W:=W) (B:=B) O (Z m+1) t 12 (2*t+2*t+5) m (da<|cN a m) [] (tP a m [1] []) f c5 (.inr V) O (Pz.nil _ _) c6 (by have:=f.len;omega) hB (by rw[(O:2*t+2*t+5=4*t+5)];exact hw)
 have P:xn s (Z m+2) a m [1] []:= .inr ⟨c1,c2,c3,c4,r1⟩
 have er:eJ (Z m+2) a m=eJ (Z m+1) m (da<|cN a m):=by rw[eJ,w p]
 have eU:kV (Z m+2) a m [1] []=kV (Z m+1) m (da<|cN a m) [] (tP a m [1] []):=by rw[kV,w p]
 rw[<-er]at I
 rw[<-eU]at Y
 let ⟨g1,g2,g3,_⟩:=Q9 (Z m+2) a m F.can f.can O
 have R0:=aqy f.can hI F.can a0 hl
 have g:eJ (Z m+2) a m≠[]:=(YE (k:=Z m+2) F.can f.can O a0).1
 have Q:sz (lx<|eJ (Z m+2) a m)=1:=(R0.symm.of_dvd g3).symm.unit g2
 rw[fj g1]at Q
 have X:=aeD (A0:=lx a) (M0:=lx m) (Z m+2) a m [1] [] F.can f.can O (by rw[Ip,Rx.one_mul];exact o9 _ _) (by rw[nF,Rx.zero_mul,Rx.sub_zero];exact dvd_refl _)
 generalize hU:(kV (Z m+2) a m [1] []).1=U at*
 generalize hR:eJ (Z m+2) a m=aV at*
 obtain⟨c,rfl⟩:∃c,aV=[c]:=by
  match aV,Q with
  |[c],_=>exact⟨c,J⟩
 have o:c≠0:=g1.ne g
 have H:Ht (2^B) (K c⁻¹):=I.ht.inv (k:=0) o
 have b:QS s c:=I.qs O 0
 have L:da [c]=[1]:=by refine ph (po _) ND ?_;rw[uT g,Ds,Ds];show K c⁻¹ *K c=K 1;rw[<-eW,mA c o]
 have h:r z 114 [N .q [c]] (N .q [1]):=by have:=ajC (s:=s) O O [c] g ax o (λi=>I.qs O i) (H.Ue O);rw[aeh,<-YP g,L]at this;exact this
 have j:=K9 c (λe=>o<|uJ e) (b.n.sm O)<|b.d.sm O
 have C:=Y.YV H
 have y:=Y.aei (s:=s) (c:=c⁻¹) (H.Ue O) T O x
 have A:=f.NA (s:=s) (Ep 1 t T) T (d:=12) (by have:=f.len;simp;omega) T T O x
 rw[aqx f.can]at A
 have Nm:=C.NA (s:=s) f p (d:=400) (by have:=C.len;omega) T T O x
 have hu:Pz 12 (W+401*B) (cN (gW c⁻¹ U) m):=(C.rem f p (d:=400)<|by have:=C.len;omega).le (aW _) O
 have D:=Ua (s:=s) hu F T T O x
 have hp:=hu.mul F T
 have E:=(Ep 1 t T).aeg (s:=s) hp T T O O x
 have G:=(Ep 1 t T).sub hp
 have Ud:=G.NA (s:=s) f p (d:=30) (by have:=G.len;omega) T T O x
 refine⟨_,_,⟨hu,o8 p,?_⟩,aqu O x P hR hU p g ax J h j y A Nm D E Ud⟩
 have e1:lx m∣lx (gW c⁻¹ U)*lx a-1:=by have h2:lx m∣K c⁻¹ *(lx [c]-lx U*lx a):=dI X _;rw[Rx.mul_sub,Ds,<-eW,mA c o,oh]at h2;rw[Dz,Rx.mul_assoc];exact m9 h2
 refine og ?_ e1
 have:=LF (a:=gW c⁻¹ U) f.can p
 rw[<-Rx.sub_mul]
 exact kN this _
def aqA{s t B W}(e:s<=100000000){a m}(f:Pz 12 t a)(g:Pz 12 t m)(i:bl (lx m))(d:a≠[])(k:Z a<Z m)(l:(t+1)*3^Z m<=B)(n:(4*t+5+6*B)*2^(Z m+1)<=W)(o:450*(W+4*B+6)<32*s):
  ∃u,Uf a m u (W+401*B)/\r z 14 [N .q a,N .q m] (.t [(ah,[.S .q u]),(ah,[.I .i64 0])]):=by
 let ⟨u,v,p,h2⟩:=aqz e f g i d k l n o
 refine⟨u,p,?_⟩
 refine aJ Tryz.func14 ?_
 have x:=cv.2 d
 refine I J<|M<|I J<|c J (λh=>?_)<|λh=>aD ?_
 .have h:(Z a:Int)=0:=eq_of_beq h;exact absurd h O
 .exact R<|rc J J h2<|j J<|I J<|cJ J
def aqB(m:V Rat):r z 14 [N .q [],N .q m] (.t [(ah,[.S .q []]),(ah,[.I .i64 10])]):=by refine aJ Tryz.func14 ?_;exact I J<|M<|I J<|c J (λh=>I J<|bI<|cG<|g7 cj J<|Yg .q _)<|λh=>eV
def aeE{a}{n d}(e:d≠0)(f:aA n<=2^a)(g:aA d<=2^a):Ht (2^a) (K<|Rat.divInt n d):=⟨d,e,g,λi=>by
 rw[mz];split
 .refine⟨n,f,?_⟩;rw[Lv];have:=Hb e;rw[yr,Dm,nE,mA _ this,tn]
 .exact⟨0,a8 _,fO _⟩⟩
def Rx.Ht.X1{a}{d}(e:Ht a d):Ht a (X 1*d):=by
 let ⟨D,f,h2,g⟩:=e;refine⟨D,f,h2,λi=>?_⟩;rw[mq];split
 .exact g _
 .exact⟨0,a8 _,fO _⟩
def aeF{a:Y}:∀{l:V Rat},(∀x∈l,Ht (2^a) (K x))->Ht (2^((a+1)*Z l)) (lx l)
 |[],_=>by rw[nF];exact Ht.zero<|iA T
 |e::l,d=>by rw[Lm];have f:=(d e ax).add (aeF (a:=a) (l:=l) λx g=>d x<|jF _ g).X1;refine f.le ?_;have:=Hd a ((a+1)*Z l) 1;rw[Nat.pow_one]at this;rw[this,gQ,uD,qj];exact fh T O
def aeG{a}{l}{d}(f:∀x∈l,Ht (2^a) (K<|py x)):Pz (d+1) ((a+1)*(d+1)) (uW l d):=by have e:Z ((List.take (d+1) l).map py)<=d+1:=DB;refine⟨kO _,bQ (rW _) e,?_⟩;rw[uW,rU];refine(aeF (a:=a) λx g=>?_).le<|fh T<|ia _ e;obtain⟨y,i,rfl⟩:=je.1 g;exact f y<|BD i
def aqC{l}{most}(e:∀x∈l,lO x):Pz (most+1) (8*(most+1)) (wQ l most):=aeG (a:=7) λx f=>by
 obtain⟨y,d,rfl⟩:=je.1 f;have d:=e y d;refine aeE (Rr<|acL d) ?_ ?_
 .have:yE (wP y)=y.1:=w (T:¬(0:Int)%8=7);rw[this];have:=d.1;omega
 .have:uU (wP y)=nH y.2.1:=w (T:¬(0:Int)%8=6);rw[this];unfold nH;have:=d.2.1;split<;>omega
def aeH{n a}{e}(d:aG n e)(f:32*n<=a):aA e<=2^a:=by
 have:(4294967296:Y)^n=2^(32*n):=by rw[(T:(4294967296:Y)=2^32),<-Dc]
 unfold aG at d;rw[this]at d;exact bQ (xw d)<|fh T f
def aqD{l}{most}(d:∀x∈l,lO x):Pz (most+1) (193*(most+1)) (uW l most):=aeG (a:=192) λx e=>
 aeE (Rr<|d x e) (aeH (Y1<|d x e) T) (aeH (Y2<|d x e) T)
def lW.pz{m}(a:lW m):Pz 5 7 m:=⟨a.can,a.l5,a.ht⟩
def lW.ne{m}(a:lW m):m≠[]:=λe=>by have:=a.l2;rw[e]at this;cases this
def Ug{m}(a:lW m){l}(d:∀x∈l,lO x):Pz 4 32 (wQ l<|Z m-2)/\Z (wQ l<|Z m-2)<Z m:=by have e:=a.l2;have f:=a.l5;have p:=aqC (most:=Z m-2) d;exact⟨p.le O O,by have:=p.len;omega⟩
def aqE:r z 35 [N .q []] (cB ae):=gJ (l:=[]) A dN J J
def aeI:r z 37 [N I8 [1]] (N .q [1]):=gJ (l:=[]) A dN J J
def Pz.aeJ{n t k}{a}(d:Pz n t a)(g:n<=1000)(i:t<32*k)(e:k<=1000000000):r z 35 [N .q a] (cB ae):=by
 by_cases f:a=[]
 .subst f;exact aqE
 .exact adu e a (bQ d.len g) (d.can.ne f) (d.qs i) f
def Pz.aqF{n t k}{a}(f:Pz n t a)(d:V Rat)(g:n<=1000)(i:t<32*k)(e:k<=1000000000):r z 16 [N .q a,N .q d] (cB<|decide<|a=d):=aoP e a d (bQ f.len g)<|f.qs i
def Pz.Er{n t k}{a d}(g:Pz n t a)(e:a=d)(i:n<=1000)(l:t<32*k)(f:k<=1000000000):r z 16 [N .q a,N .q d] (cB ae):=by have:=g.aqF d i l f;rwa[qq e]at this
def Pz.AA{n m t u k}{a d}(e:Pz n t a)(f:Pz m u d)(g:n<=1000)(i:m<=1000)(l:t<32*k)(o:u<32*k)(p:k<=100000000000):r z 36 [N .q a,N .q d] (N .q<|kQ a d):=
 G9 a d (bQ e.len g) (bQ f.len i) (e.qs l) (f.qs o) p
def Pz.aqG{n m t u k}{a d}(e:Pz n t a)(f:Pz m u d)(g:n<=12)(i:m<=100)(l:t<32*k)(o:u<32*k)(p:k<=100000):r z 34 [N .q a,N .q d] (N .q<|ml a d):=
 aj5 p a d (bQ e.len g) (bQ f.len i) (e.qs l) (f.qs o)
def xo{a e m}{t u}(f:lW m)(g:Pz 12 t a)(i:Pz 12 u e)(n:Z a<Z m)(o:Z e<Z m)(p:t+u+200<3200000000):Pz 4 (t+u+28) (fm a e m)/\(fm a e m).length<Z m/\lx m∣lx (fm a e m)-lx a*lx e/\r z 19 [N .q a,N .q e,N .q m] (N .q<|fm a e m):=by have v:=f.l5;have x:=f.l2;have k:=o8 (a:=ml a e) f.ne;have l:=Pz.fm g i f.pz f.ne (d:=3) T O;refine⟨⟨l.can,?_,l.ht.le<|fh T O⟩,k,Ek f.can f.ne,g.aqg i f.pz f.ne (d:=3) (s:=100000000) T T T O O T⟩;show(fm a e m).length<=4;have:(fm a e m).length<Z m:=k;omega
def aqH a d m:fm a d m=fm d a m:=by rw[fm,fm,akj]
end Go.El
namespace Go.El
open Go Go.Proofs Go.RowKit
def aqI:r z 233 [aP [1073741825,0,1] PQ] (pL [([1073741825,0,1],PQ)]):=
 gJ (l:=[]) A dN J J
def aqJ:r z 236 [zP [-2,0,1],pL [([1073741825,0,1],PQ)],cU PQ,y 1] (nK [[-2,0,1]]):=
 gJ (l:=[]) A dN J J
def aqK:r z 235 [zP [-2,0,1],nK [[-2,0,1]],aZ PQ] (nK [[-2,0,1]]):=
 Nz (l:=[]) A dN J J
def aqL:r z 195 [zP [-2,0,1]] (nK [[-2,0,1]]):=
 gJ (l:=[(233,[aP [1073741825,0,1] PQ],pL [([1073741825,0,1],PQ)]),(236,[zP [-2,0,1],pL [([1073741825,0,1],PQ)],cU PQ,y 1],nK [[-2,0,1]]),(235,[zP [-2,0,1],nK [[-2,0,1]],aZ PQ],nK [[-2,0,1]])]) ⟨aqI,aqJ,aqK,A⟩ dN J J
def aqM:r z 165 [uP [qI (-2),qI 0,qI 1]] (.c<|.S (.sl .q) [[qI (-2),qI 0,qI 1]]):=
 gJ (l:=[(195,[zP [-2,0,1]],nK [[-2,0,1]])]) ⟨aqL,A⟩ dN J J
def aqN:r z 164 [uP [qI (-2),qI 0,qI 1]] (.c<|.S (.pr (.sl .q) mi) [([qI (-2),qI 0,qI 1],1)]):=
 gJ (l:=[]) A dN J J
def aqO:r z 139 [uP [qI (-2),qI 0,qI 1]] (.t [(ae,[.B ah,.S (.int .u32) [1],.B ah,.S (.int .u32) [1]]),(ah,[.S (.pr (.sl .q) mi) [([qI (-2),qI 0,qI 1],1)]]),(ah,[.I .i64 0])]):=
 gJ (l:=[(164,[uP [qI (-2),qI 0,qI 1]],.c<|.S (.pr (.sl .q) mi) [([qI (-2),qI 0,qI 1],1)]),(165,[uP [qI (-2),qI 0,qI 1]],.c<|.S (.sl .q) [[qI (-2),qI 0,qI 1]])]) ⟨aqN,aqM,A⟩ dN J J
def aqP:r z 31 [uP [qI (-2),qI 0,qI 1]] (cB ae):=
 gJ (l:=[(139,[uP [qI (-2),qI 0,qI 1]],.t [(ae,[.B ah,.S (.int .u32) [1],.B ah,.S (.int .u32) [1]]),(ah,[.S (.pr (.sl .q) mi) [([qI (-2),qI 0,qI 1],1)]]),(ah,[.I .i64 0])])]) ⟨aqO,A⟩ dN J J
def aqQ:r z 233 [aP [1073741823,0,1] PQ] (pL [([2,1],PQ),([1073741825,1],PQ)]):=
 gJ (l:=[]) A dN J J
def aqR:r z 236 [zP [-4,0,1],pL [([2,1],PQ),([1073741825,1],PQ)],cU PQ,y 1] (nK [[2,1],[-2,1]]):=
 gJ (l:=[]) A dN J J
def aqS:r z 235 [zP [-4,0,1],nK [[2,1],[-2,1]],aZ PQ] (nK [[2,1],[-2,1]]):=
 Nz (l:=[]) A dN J J
def aqT:r z 195 [zP [-4,0,1]] (nK [[2,1],[-2,1]]):=
 gJ (l:=[(233,[aP [1073741823,0,1] PQ],pL [([2,1],PQ),([1073741825,1],PQ)]),(236,[zP [-4,0,1],pL [([2,1],PQ),([1073741825,1],PQ)],cU PQ,y 1],nK [[2,1],[-2,1]]),(235,[zP [-4,0,1],nK [[2,1],[-2,1]],aZ PQ],nK [[2,1],[-2,1]])]) ⟨aqQ,aqR,aqS,A⟩ dN J J
def aqU:r z 165 [uP [qI (-4),qI 0,qI 1]] (.c<|.S (.sl .q) [[qI 2,qI 1],[qI (-2),qI 1]]):=
 gJ (l:=[(195,[zP [-4,0,1]],nK [[2,1],[-2,1]])]) ⟨aqT,A⟩ dN J J
def aqV:r z 164 [uP [qI (-4),qI 0,qI 1]] (.c<|.S (.pr (.sl .q) mi) [([qI (-4),qI 0,qI 1],1)]):=
 gJ (l:=[]) A dN J J
def aqW:r z 139 [uP [qI (-4),qI 0,qI 1]] (.t [(ae,[.B ah,.S (.int .u32) [1],.B ah,.S (.int .u32) [1]]),(ah,[.S (.pr (.sl .q) mi) [([qI (-2),qI 1],1),([qI 2,qI 1],1)]]),(ah,[.I .i64 0])]):=
 gJ (l:=[(164,[uP [qI (-4),qI 0,qI 1]],.c<|.S (.pr (.sl .q) mi) [([qI (-4),qI 0,qI 1],1)]),(165,[uP [qI (-4),qI 0,qI 1]],.c<|.S (.sl .q) [[qI 2,qI 1],[qI (-2),qI 1]])]) ⟨aqV,aqU,A⟩ dN J J
def aqX:r z 31 [uP [qI (-4),qI 0,qI 1]] (cB ah):=
 gJ (l:=[(139,[uP [qI (-4),qI 0,qI 1]],.t [(ae,[.B ah,.S (.int .u32) [1],.B ah,.S (.int .u32) [1]]),(ah,[.S (.pr (.sl .q) mi) [([qI (-2),qI 1],1),([qI 2,qI 1],1)]]),(ah,[.I .i64 0])])]) ⟨aqW,A⟩ dN J J
def aqY:r z 31 [uP [qI 0,qI 1]] (cB ae):=
 gJ (l:=[]) A dN J J
def aqZ:r z 31 [uP [qI 0,qI 2]] (cB ah):=
 gJ (l:=[]) A dN J J
def qH:Rat:=⟨1,2,T,T⟩
abbrev mS:V Rat:=[qI (-2),qI 0,qI 1]
def aq0:r z 17 [uP [qI 0,qI 0,qI 0,qI 1],uP mS] (uP [qI 0,qI 2]):=
 gJ (l:=[]) A dN J J
def aq1:r z 19 [uP [qI 1,qI 1],uP [qI (-1),qI 1],uP mS] (uP [qI 1]):=
 gJ (l:=[]) A dN J J
def aq2:r z 14 [uP [qI 0,qI 1],uP mS] (.t [(ah,[.S .q [qI 0,qH]]),(ah,[.I .i64 0])]):=
 gJ (l:=[]) A dN J J
def aq3:r z 26 [uP [qI 5],uP mS] (uP [qI (-5),qI 1]):=
 gJ (l:=[]) A dN J J
def aq4:r z 26 [uP [qI 3,qI 1],uP [qI (-2),qI 0,qI 1]] (uP [qI 7,qI<| -6,qI 1]):=
 gJ (l:=[]) A dN J J
def aq5:r z 22 [uP [qI 3,qI 1],uP [qI (-2),qI 0,qI 1]] (aQ<|qI 7):=
 Nz (l:=[]) A dN J J
def aq6:r z 24 [uP [qI 3,qI 1],uP [qI (-2),qI 0,qI 1]] (aQ<|qI 6):=
 Nz (l:=[]) A dN J J
def aeK:r z 14 [uP [qI 1],uP [qI (-2),qI 0,qI 1]] (.t [(ah,[.S .q [qI 1]]),(ah,[.I .i64 0])]):=
 gJ (l:=[]) A dN J J
def aq7:r z 101 [.c (.S (.sl .q) [[qI (-2)],[],[qI 1]]),uP [qI (-2),qI 0,qI 1]] (.c<|.S (.sl .q) [[qI (-2)],[],[qI 1]]):=
 gJ (l:=[(14,[uP [qI 1],uP [qI (-2),qI 0,qI 1]],.t [(ah,[.S .q [qI 1]]),(ah,[.I .i64 0])])]) ⟨aeK,A⟩ dN J J
def aq8:r z 101 [.c (.S (.sl .q) [[qI 0,qI 1],[qI 1]]),uP [qI (-2),qI 0,qI 1]] (.c<|.S (.sl .q) [[qI 0,qI 1],[qI 1]]):=
 gJ (l:=[(14,[uP [qI 1],uP [qI (-2),qI 0,qI 1]],.t [(ah,[.S .q [qI 1]]),(ah,[.I .i64 0])])]) ⟨aeK,A⟩ dN J J
def aq9:r z 102 [.c (.S (.sl .q) [[qI (-2)],[],[qI 1]]),.c<|.S (.sl .q) [[qI 0,qI 1],[qI 1]],uP [qI (-2),qI 0,qI 1]] (.c<|.S (.sl .q) []):=
 gJ (l:=[]) A dN J J
def aq':r z 49 [.c (.S (.sl .q) [[qI (-2)],[],[qI 1]]),.c<|.S (.sl .q) [[qI 0,qI 1],[qI 1]],uP [qI (-2),qI 0,qI 1]] (.c<|.S (.sl .q) [[qI 0,qI 1],[qI 1]]):=
 gJ (l:=[(101,[.c (.S (.sl .q) [[qI (-2)],[],[qI 1]]),uP [qI (-2),qI 0,qI 1]],.c<|.S (.sl .q) [[qI (-2)],[],[qI 1]]),(101,[.c (.S (.sl .q) [[qI 0,qI 1],[qI 1]]),uP [qI (-2),qI 0,qI 1]],.c<|.S (.sl .q) [[qI 0,qI 1],[qI 1]]),(102,[.c (.S (.sl .q) [[qI (-2)],[],[qI 1]]),.c<|.S (.sl .q) [[qI 0,qI 1],[qI 1]],uP [qI (-2),qI 0,qI 1]],.c<|.S (.sl .q) [])]) ⟨aq7,aq8,aq9,A⟩ dN J J
abbrev MO:ET:= .pr mi<|.pr mi<|.pr mi<|.pr mi<|.pr mi<|.pr mi<|.pr mi mi
abbrev TE:ET:= .pr .q MO
abbrev pA:AV:= .c<|.S TE [(qI 1,(2,0,0,0,0,0,0,0)),(qI 1,(0,1,0,0,0,0,0,0))]
abbrev atA:AV:= .a [.S .q [qI 1,qI 1],.S .q [qI 1],.S .q [],.S .q [],.S .q [],.S .q [],.S .q [],.S .q []]
def ara:r z 55 [pA,atA,uP mS] (uP [qI 4,qI 2]):=
 gJ (l:=[]) A dN J J
def arb:r z 10 [] (cB ae):=
 gJ (l:=[(14,[uP [qI 0,qI 1],uP [qI (-2),qI 0,qI 1]],.t [(ah,[.S .q [qI 0,qH]]),(ah,[.I .i64 0])]),(49,[.c (.S (.sl .q) [[qI (-2)],[],[qI 1]]),.c<|.S (.sl .q) [[qI 0,qI 1],[qI 1]],uP [qI (-2),qI 0,qI 1]],.c<|.S (.sl .q) [[qI 0,qI 1],[qI 1]]),(19,[uP [qI 1,qI 1],uP [qI (-1),qI 1],uP [qI (-2),qI 0,qI 1]],uP [qI 1]),(17,[uP [qI 0,qI 0,qI 0,qI 1],uP [qI (-2),qI 0,qI 1]],uP [qI 0,qI 2]),(22,[uP [qI 3,qI 1],uP [qI (-2),qI 0,qI 1]],aQ<|qI 7),(24,[uP [qI 3,qI 1],uP [qI (-2),qI 0,qI 1]],aQ<|qI 6),(26,[uP [qI 3,qI 1],uP [qI (-2),qI 0,qI 1]],uP [qI 7,qI<| -6,qI 1]),(26,[uP [qI 5],uP [qI (-2),qI 0,qI 1]],uP [qI (-5),qI 1]),(55,[pA,atA,uP [qI (-2),qI 0,qI 1]],uP [qI 4,qI 2]),(31,[uP [qI (-2),qI 0,qI 1]],cB ae),(31,[uP [qI 0,qI 1]],cB ae),(31,[uP [qI (-4),qI 0,qI 1]],cB ah),(31,[uP [qI 0,qI 2]],cB ah)]) ⟨aq2,aq',aq1,aq0,aq5,aq6,aq4,aq3,ara,aqP,aqY,aqX,aqZ,A⟩ dN J J
open Rx
section
variable{a b c m:V Rat}
def arc(d:lW m):fm (fm a b m) c m=fm a (fm b c m) m:=by refine akl (tr _ _) (tr _ _) d.can d.ne ?_;rw[px,px];have e:=qD (Ek (a:=a) (b:=b) d.can d.ne)<|o9 (lx m)<|lx c;have f:=qD (o9 (lx m)<|lx a)<|Ek (a:=b) (b:=c) d.can d.ne;rw[Rx.mul_assoc]at e;exact og e<|m9 f
def ard(d:lW m):fm (kQ a b) c m=kQ (fm a c m) (fm b c m):=by
 have e:(fm a c m).length<Z m:=o8 d.ne;have f:(fm b c m).length<Z m:=o8 d.ne;refine He (tr _ _) (kO _) d.can d.ne ?_ ?_
 .refine uA (rW _) ?_;rw[cR,rO];omega
 .rw[px,Ha,Ha,Rx.add_mul];exact m9<|QQ (Ek d.can d.ne)<|Ek d.can d.ne
def are(d:lW m)(e:bF a)(f:Z a<Z m):fm a [1] m=a:=by refine He (tr _ _) e d.can d.ne f ?_;rw[px,Ip,Rx.mul_one];exact o9 _ _
def arf(d:lW m)(e:bF a)(f:Z a<Z m) g:cN (kQ (ml g m) a) m=a:=by refine He (kO _) e d.can d.ne f ?_;rw[Ha,px,Rx.uK];exact dvd_mul_left _ _
def arh(d:lW m){i}{e}(f:Uf a m i e):fm a i m=[1]:=by refine He (tr _ _) ND d.can d.ne (by have:=d.l2;simp;omega) ?_;rw[px,Ip,Rx.mul_comm];exact f.eq
def ari(d:lW m)(g:bF a)(i:bF b)(p:Z a<Z m)(q:Z b<Z m)(l:a≠[])(n:b≠[]):fm a b m≠[]:=λe=>by
 have k:=Ek (a:=a) (b:=b) d.can d.ne;rw[e,nF]at k;have o:lx m∣lx a*lx b:=by have:=m9 k;rwa[Rx.sub_zero]at this
 rcases d.fI.na o with f|f
 .have:=iK f<|yB g l;rw[fj d.can,fj g]at this;omega
 .have:=iK f<|yB i n;rw[fj d.can,fj i]at this;omega
end
def arj k(U:V Int)(H n L:V (Int×Int×Int))(hk:0<=k/\k<=255)(TO:∀x∈U,-128<=x/\x<=127)(h0:∀x∈H,lO x)(P:∀x∈n,lO x)(h2:∀x∈L,lO x):
  r z 5 [.a [.I .u8 k,.S I8 U],.a [.S RW H,.S RW n,.S RW L]] (cB ae):=by
 let ⟨m,hm,hF⟩:=ap9 k U hk TO
 have e0:=T0 hm.l2 hm.l5 H h0
 have e1:=T0 hm.l2 hm.l5 n P
 have e2:=T0 hm.l2 hm.l5 L h2
 let ⟨g,la⟩:=Ug hm h0
 let ⟨l,lb⟩:=Ug hm P
 let ⟨K,lc⟩:=Ug hm h2
 have X:=acK n 3 T P
 have pM:=aqD (most:=3) P
 generalize wQ H (Z m-2)=a at*
 generalize wQ n (Z m-2)=b at*
 generalize wQ L (Z m-2)=df at*
 generalize uW n 3=Ij at*
 have f:∀{t:Y}{x:V Rat},Pz 4 t x->Pz 12 t x:=λh=>h.le T<|aW _
 let ⟨pp,lp,_,w⟩:=xo hm (f g) (f l) la lb T
 let ⟨_,_,_,y⟩:=xo hm (f l) (f g) lb la T
 let ⟨A,_,_,D⟩:=xo hm (f pp) (f K) lp lc T
 let ⟨o,E,_,p⟩:=xo hm (f l) (f K) lb lc T
 let ⟨_,_,_,q⟩:=xo hm (f g) (f o) la E T
 have G:=g.add l
 have N:Z (kQ a b)<Z m:=by refine uA (rW _) ?_;rw[cR,rO];omega
 let ⟨psc,_,_,msc⟩:=xo hm (G.le T<|aW _) (f K) N lc T
 let ⟨pac,_,_,mac⟩:=xo hm (f g) (f K) la lc T
 have vp:=pp.aeJ (k:=10) T T T
 have s1:=pp.Er (k:=10) (aqH a b m) T T T
 have s2:=A.Er (k:=10) (arc (a:=a) (b:=b) (c:=df) hm) T T T
 have aab:=g.AA l (k:=10) T T T T T
 have aac:=pac.AA o (k:=10) T T T T T
 have s3:=psc.Er (k:=10) (ard (a:=a) (b:=b) (c:=df) hm) T T T
 let ⟨pa1,_,_,ma1⟩:=xo hm (f g) (Ep 12 0 T) la (by have:=hm.l2;simp;omega) T
 have s4:=pa1.Er (k:=10) (are hm g.can la) T T T
 have mMm:=pM.aqG hm.pz (k:=100) T T T T T
 have u:=pM.mul hm.pz T
 have aMa:=u.AA g (k:=100) T T T T T
 have v:=u.add g
 have C:=v.aek hm.pz hm.ne (d:=10) (s:=100) (by have:=v.len;omega) T T T T
 rw[arf hm g.can la]at C
 have s5:=g.Er (k:=10) J T T T
 have hm2:=hm.l2
 have hm5:=hm.l5
 have lap:=pp.len
 have laa:=g.len
 have lba:=l.len
 have hz:=ari (a:=a) (b:=b) hm g.can l.can la lb
 refine aJ Tryz.func5 ?_
 refine I J<|bw J J arb J<|M<|I J<|c J (λh=>eV)<|λ_=>aD ?_
 refine R<|rc J J hF<|j J ?_
 refine R<|rc J J e0<|j J<|R<|rc J J e1<|j J<|R<|rc J J e2<|j J<|R<|rc J J w<|j J<|M ?_
 refine R<|rc J J vp<|rg 37 J J (λh=>eV)<|λ_=>?_
 refine rg 44 J J (λh=>?_)<|λ_=>?_
 .have h:((fm a b m).length:Int)>=(Z m:Int):=aT h;exact absurd lp O
 refine fX J J J J J y<|fX J J J J J s1<|rg 53 J J (λh=>eV)<|λ_=>?_
 refine fX J J J J J D<|fX J J J J J p<|fX J J J J J q<|fX J J J J J s2<|rg 68 J J (λh=>eV)<|λ_=>?_
 refine fX J J J J J aab<|fX J J J J J msc<|fX J J J J J mac<|fX J J J J J p<|fX J J J J J aac<|fX J J J J J s3<|j J ?_
 refine c J (λh=>eV)<|λ_=>aD<|M ?_
 refine R<|rl I8 [1] J J (rc J J aeI<|rc J J ma1<|rc J J s4<|rg 95 J J (λh=>eV)<|λ_=>?_)
 refine fX J J J J J X<|fX J J J J J mMm<|fX J J J J J aMa<|fX J J J J J C<|fX J J J J J s5<|j J ?_
 refine c J (λh=>eV)<|λ_=>aD ?_
 by_cases a0:a=[]
 .subst a0;refine R<|rc J J (aqB m)<|j J<|M<|I J<|c J (λ_=>?_)<|λh=>eV;exact R<|rg 119 J J (λ_=>rg 123 J J (λ_=>j J<|bI<|cG<|atR J)<|λh=>eV)<|λh=>eV
 .let ⟨i,Q,fi⟩:=aqA (s:=100000000) (t:=32) (B:=8019) (W:=3087808) T (f g) (hm.pz.le T T) hm.fI a0 la (bQ (ia _<|fh T hm5) T) (bQ (ia _<|fh T (O:Z m+1<=6)) T) T;have li:=Q.len;have vi:=Q.pz.aeJ (k:=1000000) T T T;let ⟨_,_,_,F⟩:=xo hm (f g) Q.pz la li T;rw[arh hm Q]at F;have s6:=(Ep 1 0 T).Er (k:=1) (a:=[1]) J T T T;have PO:=cv.2 a0;refine R (rc J J fi<|j J<|M<|I J<|c J (λh=>?_)<|λ_=>aD ?_)
  .have h:(Z a:Int)=0:=eq_of_beq h;exact absurd h O
  refine R<|rg 129 J J (λ_=>?_)<|λh=>eV;refine rg 133 J J (λ_=>?_)<|λh=>eV;refine fX J J J J J vi<|rg 137 J J (λ_=>?_)<|λh=>eV;refine rg 144 J J (λ_=>?_)<|λh=>?_;rotate_left
  .have h:¬(Z i:Int)<(Z m:Int):=a4 h;exact absurd li O
  refine fX J J J J J F<|rlg I8 [1] J J J J J (fX J J J J J aeI<|fX J J J J J s6<|rg 153 J J (λ_=>?_)<|λh=>eV);refine rg 157 J J (λ_=>j J<|cJ J)<|λh=>?_;have b0:b≠[]:=λe=>by subst e;cases h
  have hp0:=cv.2<|hz a0 b0;refine j J<|bO J ?_;exact a6 cB<|qq (O:((fm a b m).length:Int)>0)
end Go.El
namespace Go.El
open Go Go.Proofs Go.RowKit
def NF(P:bS):Y->V Field->Bool
 |_,[]=>ae
 |off,f::a=>decide (f.offset=off)&&NF P (off+P.cellsOf f.type) a
def xp(P:bS):V dM->Y
 |[]=>0
 |t::a=>P.cellsOf t+xp P a
def vu(P:bS):Y->ET->V dM->Bool
 |0,_,_=>ah
 |_+1,_,[]=>ah
 |f+1,a,[t]=>(match P.underlying t with
  |some (.int k)=>(match a with
   | .int g=>decide<|g=k
   |_=>ah)
  |some .bool=>(match a with
   | .bool=>ae
   |_=>ah)
  |some (.slice e)=>(match a with
   | .sl d=>vu P f d [e]&&decide (P.cellsOf e=d.n)&&decide (d.n<=P.bytesOf e)
   |_=>ah)
  |some (.struct fs)=>vu P f a (fs.toList.map (·.type))&&NF P 0 fs.toList&&decide (xp P (fs.toList.map (·.type))=P.cellsOf t)
  |some (.array n e)=>vu P f a (bg n e)&&decide (xp P (bg n e)=P.cellsOf t)
  |_=>ah)
 |f+1,a,t::i::l=>(match a with
  | .pr m B=>vu P f m [t]&&vu P f B (i::l)
  |_=>ah)
def xq:(a:ET)->a.den->Prop
 | .int k,n=>(Lit.int k n).wf=ae
 | .bool,_=>True
 | .z,_=>False
 | .q,_=>False
 | .sl a,xs=>∀x∈xs,xq a x
 | .pr d B,x=>xq d x.1/\xq B x.2
def NG{g m:Type}{f:g->Option m}:∀{l:V g}{e:V m},l.mapM f=ad e->Z e=Z l/\∀(i:Y)(x:g),l[i]? =ad x->∃n,e[i]? =ad n/\f x=ad n
 |[],e,d=>by simp only[aeM]at d;cases d;exact⟨J,λi x hx=>by simp at hx⟩
 |a::l,e,d=>by
  rw[EY]at d;cases k:f a with
  |none=>rw[k]at d;cases d
  |some o=>
   rw[k]at d
   cases hl:l.mapM f with
   |none=>rw[hl]at d;cases d
   |some s=>
    rw[hl]at d
    cases d
    let ⟨h1,h2⟩:=NG hl
    refine⟨yA,λi x hx=>?_⟩
    cases i with
    |zero=>simp only[l3,au]at hx;subst hx;exact⟨o,J,k⟩
    |succ i=>simpa using h2 i x CB
section
variable{H:Type}{enc:dM×aO->H}{P:bS}{w:World}{base:Y}{spare:Y->Bool}{held:Bool}
def NH(enc:dM×aO->H)(P:bS)(w:World)(base:Y)(spare:Y->Bool)(held:Bool):V dM->V aO->V (zg H)->Prop
 |[],cs,ds=>cs=[]/\ds=[]
 |t::i,cs,ds=>∃f g d e,cs=f++g/\ds=d::e/\(∃a ps,ly enc P w base spare held a t f=ad (d,ps))/\NH enc P w base spare held i g e
def aeN{a:Y}{e:V aO}:∀{g:V Field}{off:Y}{xs:V (zg H×V MemPlace)},NF P off g=ae->Z e=off+xp P (g.map (·.type))->
  (g.mapM λf=>ly enc P w base spare held a f.type<|(az f.offset e).take<|P.cellsOf f.type)=ad xs->NH enc P w base spare held (g.map (·.type)) (az off e) (xs.map (·.1))
 |[],off,xs,_,hl,d=>by simp only[aeM]at d;cases d;simp only[If,xp]at hl⊢;exact⟨sB O,J⟩
 |f::g,off,xs,k,hl,d=>by
  simp only[NF,cw,decide_eq_true_eq]at k;rw[EY]at d;simp only[gR,xp]at hl;cases i:ly enc P w base spare held a f.type ((az f.offset e).take<|P.cellsOf f.type)with
  |none=>rw[i]at d;cases d
  |some l=>
   rw[i]at d
   cases hm:(g.mapM λf=>ly enc P w base spare held a f.type<|(az f.offset e).take<|P.cellsOf f.type)with
   |none=>rw[hm]at d;cases d
   |some s=>
    rw[hm]at d
    cases d
    have m:=aeN (off:=off+P.cellsOf f.type) k.2 O hm
    rw[k.1]at i
    refine⟨(az off e).take<|P.cellsOf f.type,az (off+P.cellsOf f.type) e,l.1,s.map (·.1),?_,J,⟨a,l.2,i⟩,m⟩
    rw[<-oN,q8]
def aeO{a n:Y}{e:dM}{f:V aO}:∀{m k:Y}{xs:V (zg H×V MemPlace)},k+m=n->Z f=n*P.cellsOf e->
  ((List.range' k m).mapM λi=>ly enc P w base spare held a e<|(az (i*P.cellsOf e) f).take<|P.cellsOf e)=ad xs->NH enc P w base spare held (bg m e) (az (k*P.cellsOf e) f) (xs.map (·.1))
 |0,k,xs,l,hl,d=>by simp only[List.range'_zero,aeM]at d;cases d;exact⟨sB (by rw[hl,<-l];exact aW _),J⟩
 |m+1,k,xs,l,hl,d=>by
  rw[IA,EY]at d;cases g:ly enc P w base spare held a e ((az (k*P.cellsOf e) f).take<|P.cellsOf e)with
  |none=>rw[g]at d;cases d
  |some o=>
   rw[g]at d
   cases hm:((List.range' (k+1) m).mapM λi=>ly enc P w base spare held a e<|(az (i*P.cellsOf e) f).take<|P.cellsOf e)with
   |none=>rw[hm]at d;cases d
   |some s=>
    rw[hm]at d
    cases d
    have p:=aeO (k:=k+1) O hl hm
    refine⟨(az (k*P.cellsOf e) f).take<|P.cellsOf e,az ((k+1)*P.cellsOf e) f,o.1,s.map (·.1),?_,J,⟨a,o.2,g⟩,p⟩
    rw[Nl,<-oN,q8]
def aeP{e:dM}:∀{n:Y}{a:V (zg H)},Z a=n->Bz P (bg n e) a=NI P e a
 |0,[],_=>rfl
 |n+1,d::a,h=>by simp only[xx,Bz,NI];rw[aeP (n:=n) dL]
def aeQ{e:dM}{d:zg H}:∀{a:V (zg H)},d∈a->∀n∈d.weights P e,n∈NI P e a
 |x::a,f,n,g=>by
  simp only[NI,aY];rcases bX.1 f with rfl|f
  .exact .inl g
  .exact .inr<|aeQ f n g
def arw{d a}i e:Uh (Uh ⟨d,a,none⟩ i) e=⟨d,a+i+e,none⟩:=by unfold Uh;split<;>split<;>simp_all
def aeR(e:dM):∀n,xp P (bg n e)=n*P.cellsOf e
 |0=>by simp[xp]
 |n+1=>by rw[xx,xp,aeR e n,Nl,Jp]
section
variable{t:dM}{c:V aO}{fuel:Y}{d:zg H}{ps:V MemPlace}
def trod_bool(e:P.underlying t=ad .bool)(a:ly enc P w base spare held (fuel+1) t c=ad (d,ps)):∃f,c=[.bool f]:=by
 unfold ly at a;rw[e]at a;rcases c with _|⟨v,_|⟨v2,r⟩⟩
 .simp at a
 .cases v<;>first| (simp at a;done)|exact⟨_,rfl⟩
 .cases v<;>simp at a
def trod_int{k}(f:P.underlying t=ad (.int k))(a:ly enc P w base spare held (fuel+1) t c=ad (d,ps)):∃n,c=[.int k n]/\(Lit.int k n).wf=ae:=by
 unfold ly at a;rw[f]at a;rcases c with _|⟨v,_|⟨v2,r⟩⟩
 .simp at a
 .cases v with
  |int g n=>
   simp only at a
   split at a
   .rename_i e;exact⟨n,by rw[e.1],e.2⟩
   .cases a
  |_=>simp at a
 .cases v<;>simp at a
def trod_slice{e}(n:P.underlying t=ad (.slice e))(g:ly enc P w base spare held (fuel+1) t c=ad (d,ps)):c=[.slice none 0 0]\/
  ∃a k l f rest,c=[.slice (ad a) k l]/\k<=l/\d= .slice (f.map (·.1)) rest/\(cd k).mapM (λi=>(w.cells? base (a.add<|i*P.cellsOf e)<|P.cellsOf e).bind<|ly enc P w base spare held fuel e)=ad f:=by
 unfold ly at g
 rw[n]at g
 rcases c with _|⟨v,_|⟨v2,r⟩⟩
 .simp at g
 .cases v with
  |slice a k l=>
   cases a with
   |none=>
    cases k with
    |zero=>cases l with
     |zero=>exact .inl J
     |succ _=>simp at g
    |succ _=>simp at g
   |some a=>
    simp only at g
    split at g
    .rename_i m;refine .inr ⟨a,k,l,?_⟩;cases hm:(cd k).mapM (λi=>(w.cells? base (a.add<|i*P.cellsOf e)<|P.cellsOf e).bind<|ly enc P w base spare held fuel e)with
     |none=>rw[hm]at g;cases g
     |some f=>
      rw[hm]at g
      simp only[Option.bind_some,cu,bG]at g
      obtain⟨rest,_,rfl,_⟩:=g
      exact⟨f,_,J,m.2.1,J,J⟩
    .cases g
  |_=>simp at g
 .cases v<;>simp at g
def trod_struct{e}(g:P.underlying t=ad (.struct e))(a:ly enc P w base spare held (fuel+1) t c=ad (d,ps)):Z c=P.cellsOf t/\∃xs,(e.toList.mapM λf=>ly enc P w base spare held fuel f.type<|(az f.offset c).take<|P.cellsOf f.type)=ad xs/\d= .agg (xs.map (·.1)):=by
 unfold ly at a;rw[g]at a;simp only at a;split at a
 .rename_i i;simp only[cu,bG]at a;obtain⟨xs,k,l,_⟩:=a;exact⟨i,xs,k,l.symm⟩
 .cases a
def trod_array{n}{e}(f:P.underlying t=ad (.array n e))(a:ly enc P w base spare held (fuel+1) t c=ad (d,ps)):Z c=P.cellsOf t/\∃xs,((cd n).mapM λi=>ly enc P w base spare held fuel e<|(az (i*P.cellsOf e) c).take<|P.cellsOf e)=ad xs/\d= .agg (xs.map (·.1)):=by
 unfold ly at a;rw[f]at a;simp only at a;split at a
 .rename_i g;simp only[cu,bG]at a;obtain⟨xs,k,l,_⟩:=a;exact⟨g,xs,k,l.symm⟩
 .cases a
end
def arx{a:Addr}{n}{e}(f:w.cells? base a n=ad e):Z e=n/\∀d(g:d<Z e),w.cell? (a.add d)=ad e[d]:=by
 unfold World.cells? at f;split at f
 .let ⟨i,h2⟩:=NG f;rw[rO]at i;refine⟨i,λd g=>?_⟩;let ⟨y,k,l⟩:=h2 d d<|kK O;rw[cK g]at k;cases k;exact l
 .cases f
def aeS{d:Type}{Q:Y->d->Prop}:∀n,(∀i,i<n->∃x,Q i x)->∃l:V d,Z l=n/\∀i(a:i<Z l),Q i l[i]
 |0,_=>⟨[],J,λi a=>absurd a<|Ch i⟩
 |n+1,a=>by
  let ⟨l,h1,h2⟩:=aeS n<|λi e=>a i O;let ⟨x,hx⟩:=a n<|dJ n;refine⟨l++[x],yA,λi e=>?_⟩;rw[List.getElem_append];split
  .rename_i f;exact h2 i f
  .rename_i f;have:i=n:=by simp at e;omega
   subst this;simpa using hx
def Es:∀(f:Y)(q:ET)(ts:V dM),vu P f q ts=ae->∀(l:V aO)(ds:V (zg H)),NH enc P w base spare held ts l ds->(∀n∈Bz P ts ds,n<=reachBytes)->
  ∃x:q.den,cV (λL o=>w.cell? ⟨L,o,none⟩) q x l/\xq q x
 |0,_,_,g,_,_,_,_=>by cases g
 |_+1,_,[],g,_,_,_,_=>by cases g
 |f+1,q,t::t'::ts,g,l,ds,hc,v=>by
  cases q with
  |pr pO B=>
   simp only[vu,cw]at g
   obtain⟨Q,aV,d,e,rfl,rfl,F,h3⟩:=hc
   simp only[Bz,aY]at v
   let ⟨x,N,R⟩:=Es f pO [t] g.1 Q [d] ⟨Q,[],d,[],(g8 Q).symm,J,F,J,J⟩ (λn p=>by simp only[Bz,g8]at p;exact v n<|.inl p)
   let ⟨y,S,z⟩:=Es f B (t'::ts) g.2 aV e h3<|λn p=>v n<|.inr p
   exact⟨(x,y),⟨Q,aV,J,N,S⟩,R,z⟩
  |_=>simp[vu]at g
 |f+1,q,[t],g,l,ds,hc,v=>by
  obtain⟨Q,aV,d,e,rfl,rfl,⟨s,ps,F⟩,rfl,rfl⟩:=hc;rw[g8];have v:∀n∈d.weights P t,n<=reachBytes:=λn p=>v n (by simp only[Bz,g8];exact p)
  cases s with
  |zero=>cases F
  |succ s=>
   unfold vu at g
   cases hu:P.underlying t with
   |none=>rw[hu]at g;cases g
   |some u=>
    rw[hu]at g
    cases u with
    |bool=>
     cases q with
     |bool=>let ⟨L,hb⟩:=trod_bool hu F;exact⟨L,hb,A⟩
     |_=>simp at g
    |int k=>
     cases q with
     |int k'=>
      have e:k'=k:=aT g
      subst e
      let ⟨n,p,U⟩:=trod_int hu F
      exact⟨n,p,U⟩
     |_=>simp at g
    |slice e=>
     cases q with
     |sl K=>
      simp only[cw,decide_eq_true_eq]at g
      let ⟨⟨D,g2⟩,I⟩:=g
      rcases trod_slice hu F with rfl|⟨a,len,cap,elems,rest,rfl,hlc,rfl,M⟩
      .exact⟨[],⟨_,J,none,0,J,aW _,ax,.inl J⟩,λx C=>by cases C⟩
      .let ⟨m1,m2⟩:=NG M;rw[rO]at m1;have Iq:(Z elems+Z rest)*P.bytesOf e<=reachBytes:=v _ (by simp[Ui,hu]);have hwe:∀n∈NI P e (elems.map (·.1)),n<=reachBytes:=λn p=>v n (by simp[Ui,hu,p])
       have key:∀i,i<len->∃x:K.den,∃l:V aO,(Z l=K.n/\cV (λL o=>w.cell? ⟨L,o,none⟩) K x l/\∀j(hj:j<Z l),w.cell? ((a.add<|i*K.n).add j)=ad l[j])/\xq K x:=by
        intro i E;let ⟨y,S,z⟩:=m2 i i<|kK E;cases W:w.cells? base (a.add<|i*P.cellsOf e) (P.cellsOf e)with
        |none=>rw[W]at z;cases z
        |some l=>
         rw[W]at z
         let ⟨l1,l2⟩:=arx W
         have hy:y.1∈elems.map (·.1):=je.2 ⟨y,JT S,J⟩
         let ⟨x,N,R⟩:=Es f K [e] D l [y.1] ⟨l,[],y.1,[],(g8 l).symm,J,⟨s,y.2,z⟩,J,J⟩ (λn p=>by simp only[Bz,g8]at p;exact hwe n<|aeQ hy n p)
         rw[g2]at l1 l2
         exact⟨x,l,⟨l1,N,l2⟩,R⟩
       let ⟨xs,q1,q2⟩:=aeS len key;refine⟨xs,⟨_,J,ad a,cap,by rw[q1],O,?_,?_⟩,λx C=>?_⟩
       .have e1:Z xs*K.n<=(Z elems+Z rest)*P.bytesOf e:=mn O I;simp only[reachBytes]at Iq;omega
       .by_cases h0:len=0
        .left;exact fE O
        .right;obtain⟨L,off,G⟩:=a;have X:G=none:=by let ⟨l,⟨c1,_,c3⟩,_⟩:=q2 0 O;have:=K.zh;have:=c3 0 O;simpa[Uh]using World.cell?_spot this
         subst X;refine⟨L,off,J,λi E=>?_⟩;let ⟨l,⟨c1,c2,c3⟩,_⟩:=q2 i E;refine⟨l,c1,c2,λj hj=>?_⟩;have:=c3 j hj;rw[arw]at this;exact this
       .let ⟨i,E,e⟩:=Jr C;let ⟨_,_,U⟩:=q2 i E;rw[<-e];exact U
     |_=>simp at g
    |struct fs=>
     simp only[cw,decide_eq_true_eq]at g
     let ⟨⟨D,g2⟩,I⟩:=g
     let ⟨l1,xs,C,hd⟩:=trod_struct hu F
     subst hd
     have:=aeN (off:=0) g2 O C
     rw[oQ]at this
     exact Es f q _ D Q _ this (λn p=>v n<|by simpa[Ui,hu]using p)
    |array n e=>
     simp only[cw,decide_eq_true_eq]at g
     let ⟨D,I⟩:=g
     let ⟨l1,xs,C,hd⟩:=trod_array hu F
     subst hd
     rw[NV]at C
     have Bk:(xs.map (·.1)).length=n:=by rw[cR,(NG C).1];simp
     have:=aeO (n:=n) (k:=0) O (by rw[l1,<-I,aeR]) C
     rw[rB,oQ]at this
     refine Es f q _ D Q _ this<|λm M=>v m ?_
     rw[aeP Bk]at M
     simpa[Ui,hu]using M
    |_=>simp at g
def aeT{f}{T}{t}{v}{d:zg H}{ps}(e:vu P f T [t]=ae)(g:DataW.Trod enc P w base spare held t v d ps)(i:∀n∈d.weights P t,n<=reachBytes):
  ∃x:T.den,cV (λk o=>w.cell? ⟨k,o,none⟩) T x v.cells.toList/\xq T x:=by
 let ⟨fuel,l⟩:=g
 refine Es f T [t] e _ [d] ⟨_,[],d,[],(g8 _).symm,J,⟨fuel,ps,l⟩,J,J⟩ (λn a=>?_)
 simp only[Bz,g8]at a
 exact i n a
def aeU{g:Reach}{t:dM}{v:aO}(f:(match P.underlying t with|some (.struct _)=>ae|some (.array _ _)=>ae|_=>ah)=ae)(a:Value.okWide P w g base t v):∃d,v= .agg d:=by
 unfold Value.okWide at a;split at f
 .rename_i e;rw[e]at a;let ⟨d,a,_⟩:=a;exact⟨d,a⟩
 .rename_i e;rw[e]at a;let ⟨d,a,_⟩:=a;exact⟨d,a⟩
 .cases f
def aeV{g}{d}{x:d.den}{e}(f:cV g.H d x (Value.agg e).cells.toList):bA g (.a<|av d x) (.agg e):=⟨e.toList,ax,zj d x _ f⟩
end
end Go.El
