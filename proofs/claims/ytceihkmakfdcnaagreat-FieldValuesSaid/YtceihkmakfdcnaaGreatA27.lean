/- Contract: the law of a field's axioms. Own work; no condition. -/
import Derived.Test.YtceihkmakfdcnaaGreatA14
import Derived.Test.YtceihkmakfdcnaaGreatAS10
import Derived.Test.YtceihkmakfdcnaaGreatA13
import Derived.Test.YtceihkmakfdcnaaGreatA15
set_option linter.all false
set_option maxHeartbeats 16000000
set_option maxRecDepth 100000
open Go.Proofs.Tryz renaming prog->z
open List renaming length->Z
open _root_ renaming List->V,Int->O
namespace Go.El
open Go Go.Proofs Rx
def zk:V C->V C->Prop
 |[],[]=>True
 |c::cs,d::ds=>bf (.c c) (.c d)/\zk cs ds
 |_,_=>False
def zk.rel{g:Gh}:∀{f i:V C},zk f i->∀{vs:V Value},bc g f vs->bc g i vs
 |[],[],_,_,a=>a
 |c::f,d::i,⟨k,h2⟩,vs,⟨v,r,l,m,n⟩=>⟨v,r,l,k.1 g v m,zk.rel h2 n⟩
 |[],_::_,a,_,_=>a.elim
 |_::_,[],a,_,_=>a.elim
def zk.ak:∀{g i:V C},zk g i->∀f∈b7 i,f∈b7 g
 |[],[],_,_,a=>a
 |c::g,d::i,⟨k,h2⟩,f,a=>by
  simp only[b7,bg]at a⊢;rcases a with a|a
  .exact .inl<|k.2 f a
  .exact .inr<|zk.ak h2 f a
 |[],_::_,a,_,_=>a.elim
 |_::_,[],a,_,_=>a.elim
def kL.cells{d}{f}{a c}(i:zk a c)(t:Z a=Z c):kL (.box d f a) (.box d f c):=⟨λN g W k l=>by let ⟨b,vs,rest,m,h2,n,p⟩:=l;exact⟨b,vs,rest,m,h2,i.rel n,p⟩,λk r=>i.ak k r⟩
def g2(a c:V Rat):Nat->V Rat
 |0=>a
 |1=>c
 |_=>[]
def ar2{a c m}(d:gD m)(f:Pz 4 32 a)(g:Z a<Z m)(i:Pz 4 32 c)(k:Z c<Z m):xp (g2 a c) m:=λj l=>by
 have n:Pz 4 32 []/\Z ([]:V Rat)<Z m:=⟨Pz.nil _ _,by have:=d.l2;show 0<_;omega⟩;rcases rk l with rfl|rfl|rfl|rfl|rfl|rfl|rfl|rfl
 .exact⟨f,g⟩
 .exact⟨i,k⟩
 all_goals exact n
abbrev I5:V TE.den:=[((1:Rat),((0:O),(1:O),(0:O),(0:O),(0:O),(0:O),(0:O),(0:O)))]
abbrev I6:V TE.den:=[((1:Rat),((0:O),(0:O),(0:O),(0:O),(0:O),(1:O),(0:O),(0:O)))]
abbrev I7:V TE.den:=[((7:Rat),((0:O),(0:O),(0:O),(0:O),(0:O),(0:O),(0:O),(0:O)))]
def ar3:al z 58 [cI 1] (cS TE I5):=fO (l:=[]) e dD J J
def ar4:al z 58 [cI 5] (cS TE I6):=fO (l:=[]) e dD J J
def ar5:al z 59 [cI 7] (cS TE I7):=fO (l:=[]) e dD J J
def ar6:al z 37 [cS I8 [7]] (cS .q [7]):=fO (l:=[]) e dD J J
def UR{x:MO.den}(c:∀a,a<8->mx x a=0\/mx x a=1):bM 6 x:=λa d=>by rcases c a d with c|c<;>omega
def afm:∀x∈I5,TO 20000 6 x:=λx a=>by
 rw[gI]at a;subst a;refine⟨⟨1,J,T⟩,UR λj c=>?_⟩;rcases rk c with rfl|rfl|rfl|rfl|rfl|rfl|rfl|rfl
 .exact .inl J
 .exact .inr J
 all_goals exact .inl J
def afn:∀x∈I6,TO 20000 6 x:=λx a=>by
 rw[gI]at a;subst a;refine⟨⟨1,J,T⟩,UR λj c=>?_⟩;rcases rk c with rfl|rfl|rfl|rfl|rfl|rfl|rfl|rfl
 .exact .inl J
 .exact .inl J
 .exact .inl J
 .exact .inl J
 .exact .inl J
 .exact .inr J
 all_goals exact .inl J
def afo:∀x∈I7,TO 20000 6 x:=λx a=>by rw[gI]at a;subst a;refine⟨⟨7,J,T⟩,UR λj c=>?_⟩;rcases rk c with rfl|rfl|rfl|rfl|rfl|rfl|rfl|rfl<;>exact .inl J
def ar7(g:Nat->V Rat):eR g I5=lx (g 1):=by show K 1*(1*(1*(1*(1*(1*(1*((1*lx (g 1))*(1*1))))))))+0=_;rw[nS];simp only[Rx.one_mul,Rx.mul_one,Rx.add_zero]
def ar8(g:Nat->V Rat):eR g I6=lx (g 5):=by show K 1*(1*(1*((1*lx (g 5))*(1*(1*(1*(1*(1*1))))))))+0=_;rw[nS];simp only[Rx.one_mul,Rx.mul_one,Rx.add_zero]
def ar9(g:Nat->V Rat):eR g I7=lx [7]:=by show K 7*(1*(1*(1*(1*(1*(1*(1*(1*1))))))))+0=_;rw[Hk];simp only[Rx.one_mul,Rx.mul_one,Rx.add_zero]
section
variable{m:V Rat}{g:Nat->V Rat}{P Q:V TE.den}
def ar'(a:gD m)(d:xp g m)(f:∀x∈P,TO 100 3 x)(i:∀x∈Q,TO 100 3 x):vL g m (lC P Q) (Z<|lC P Q)=jz (vL g m P<|Z P) (vL g m Q<|Z Q):=by have zP:=xq a d (λx c=>(f x c).le T T) (Z P)<|a7 _;have k:=xq a d (λx c=>(i x c).le T T) (Z Q)<|a7 _;refine I4 a d (λx c=>(tP f i x c).le T T) (lV _) (zP.add k).2 ?_;rw[afa,HD];exact LZ (nl<|I3 a)<|nl<|I3 a
def asa(c:gD m)(i:xp g m)(f:∀x∈P,TO 12 3 x)(k:∀x∈Q,TO 12 3 x)(A:Z P<=4):vL g m (nB [] P Q) (Z<|nB [] P Q)=fm (vL g m P<|Z P) (vL g m Q<|Z Q) m:=by have zP:=xq c i (λx d=>(f x d).le T T) (Z P)<|a7 _;have l:(0+Z P)*(12*12)<=20000:=G;refine I4 c i (λx d=>(UJ (n:=0) k f (λy r=>by cases r) x d).le l T) (uJ<|DV _ _) (yr c.ne) ?_;rw[afd (λx d=>(k x d).2) (λx d=>(f x d).2)];have t:=pH (nl<|I3 (g:=g) (p:=P) c)<|nl<|I3 (g:=g) (p:=Q) c;have u:=nl<|UA (a:=vL g m P<|Z P) (b:=vL g m Q<|Z Q) c.can c.ne;have v:=nR t u;show lx m∣0+_-_;rw[Rx.zero_add];exact v
end
def asb k(W:V O)(L M:V (O×O×O)) i l1(hk:0<=k/\k<=255)(Uh:∀x∈W,-128<=x/\x<=127)(h0:∀x∈L,nq x)(h1:∀x∈M,nq x)(Yu:∀x∈i,Od x)(HJ:∀x∈l1,Od x):
  al z 9 [.a [.I .u8 k,.S I8 W],.a [.S RW L,.S RW M],.a [.S R5 i,.S R5 l1]] (cB true):=by
 let ⟨m,hm,hF⟩:=aqL k W hk Uh
 have e0:=aeG hm.l2 hm.l5 L h0
 have e1:=aeG hm.l2 hm.l5 M h1
 let ⟨pa,la⟩:=aeQ hm h0
 let ⟨K,lb⟩:=aeQ hm h1
 generalize yB L (Z m-2)=a at*
 generalize yB M (Z m-2)=b at*
 have f:=ar2 hm pa la K lb
 have mP:=ae4 i Yu
 have mQ:=ae4 l1 HJ
 have n0:min (Z i) 4<=4:=Mj _ _
 have n1:min (Z l1) 4<=4:=Mj _ _
 have sk:∀x∈nC i (min (Z i) 4),TO 12 3 x:=λx d=>(Oe i _ x d).le G<|eO _
 have g:∀x∈nC l1 (min (Z l1) 4),TO 12 3 x:=λx d=>(Oe l1 _ x d).le G<|eO _
 have Y:Z (nC i<|min (Z i) 4)<=4:=cj (Og _ _) n0
 have lQ:Z (nC l1<|min (Z l1) 4)<=4:=cj (Og _ _) n1
 generalize nC i (min (Z i) 4)=P at*
 generalize nC l1 (min (Z l1) 4)=Q at*
 have l:∀x∈P,TO 20000 6 x:=λx d=>(sk x d).le T T
 have u:∀x∈Q,TO 20000 6 x:=λx d=>(g x d).le T T
 have vP:=zh hm f l G
 have vQ:=zh hm f u G
 have X:=arv hm f l G
 have r:=xq hm f l (Z P)<|a7 _
 have t:=xq hm f u (Z Q)<|a7 _
 have hS:=UG (p:=P) (q:=Q) G G sk g T T
 have C':∀x∈lC P Q,TO 20000 6 x:=λx d=>(tP sk g x d).le T T
 have lS:Z (lC P Q)<=Z P+Z Q:=xn
 have vS:=zh hm f C' G
 have eS:=ar' hm f (λx d=>(sk x d).le T<|eO _)<|λx d=>(g x d).le T<|eO _
 have hPQ:Z P*Z Q<=4*4:=ls Y lQ
 have hT:=aro sk g G G G T T G T T
 have j:∀x∈nB [] P Q,TO 20000 6 x:=λx d=>(UJ (n:=0) g sk (λy hy=>by cases hy) x d).le G T
 have lT:Z (nB [] P Q)<=Z ([]:V TE.den)+Z P*Z Q:=aeY
 have v:=zh hm f j (by simp only[m7]at lT;omega)
 have eT:=asa hm f sk g Y
 have C:=zh hm f afm (T:1<=40)
 have F:=zh hm f afn (T:1<=40)
 have H:=zh hm f afo (T:1<=40)
 have vN:=(zh (p:=[]) hm f (λx d=>by cases d)<|be _).a1<|bf.nil TE
 have o:vL (g2 a b) m I5 I5.length=b:=I4 hm f afm K.can lb (by rw[ar7];exact mJ _ _)
 have s:vL (g2 a b) m I6 I6.length=[]:=I4 hm f afn uB (by have:=hm.l2;show 0<_;omega) (by rw[ar8];exact mJ _ _)
 have p7:Pz 1 3 [(7:Rat)]:=⟨.inr T,a7 _,by rw[Hk];exact ae5 (z:=7) (a:=3) T⟩
 have w:vL (g2 a b) m I7 I7.length=[7]:=I4 hm f afo p7.can (by have:=hm.l2;show 1<_;omega) (by rw[ar9];exact mJ _ _)
 rw[o]at C
 rw[s]at F
 rw[w]at H
 rw[eS]at vS
 rw[eT]at v
 generalize vL (g2 a b) m P (Z P)=A at*
 generalize vL (g2 a b) m Q (Z Q)=B at*
 have r:Ez m 11584 A:=r.le G
 have t:Ez m 11584 B:=t.le G
 have D:=r.add t
 have zM:=Ez.mul hm r t T
 have E:=r.1.aeR (k:=1000) T T T
 have N:=t.1.aeR (k:=1000) T T T
 have R:=r.1.DJ t.1 (k:=1000) T T T T T
 have s1:=D.1.IU (k:=1000) J T T T
 let ⟨_,_,_,U⟩:=UB hm (EL r.1) (EL t.1) r.2 t.2 T
 have s2:=zM.1.IU (k:=1000) J T T T
 have s3:=K.IU (k:=1000) J T T T
 have s4:=p7.IU (k:=1000) J T T T
 have s5:=r.1.IU (k:=1000) J T T T
 refine aR Tryz.func9 ?_
 refine rr J<|bD J J ar1 J<|Pb<|rr J<|Cy J (λh=>er)<|λ_=>aA ?_
 refine rb<|rc J J hF<|re J ?_
 refine rb<|rc J J e0<|rc J J e1<|rx J J e<|re J ?_
 refine dU (wk (st':=⟨[(5,.c<|.P 2000 0),(7,cB true),(8,cS .q m),(9,.c<|.P 4009000 0)],[(4009000,.box 81 0<|jt<|g2 a b),(2000,.box 80 0 [.S R5 i,.S R5 l1])],5,[]⟩) (bJ J) ⟨⟨_,J,kL.cells ⟨bf.refl _,bf.refl _,bf.nil _,bf.nil _,bf.nil _,bf.nil _,bf.nil _,bf.nil _,e⟩ J⟩,bR J,e⟩) ?_
 refine rb<|rc J J mP<|re J<|rb<|rc J J mQ<|re J ?_
 refine rb<|rc J J vP<|re J<|rb<|rc J J vQ<|re J<|Pb ?_
 refine rb<|rc J J E<|rg 45 J J (λh=>er)<|λ_=>?_
 refine gK J J J J J N<|rg 50 J J (λh=>er)<|λ_=>?_
 refine rg 57 J J (λh=>?_)<|λ_=>?_
 .have h:(Z A:O)>=(Z m:O):=aK h;exact absurd r.2 G
 refine re J<|Cy J (λh=>?_)<|λ_=>aA<|Pb ?_
 .have h:(Z B:O)>=(Z m:O):=aK h;exact absurd t.2 G
 refine rb<|rc J J hS<|rc J J vS<|rc J J R<|rc J J s1<|rg 75 J J (λh=>er)<|λ_=>?_
 refine gK J J J J J hT<|gK J J J J J v<|gK J J J J J U<|gK J J J J J s2<|re J ?_
 refine Cy J (λh=>er)<|λ_=>aA ?_
 refine rb<|rg 90 J J (λ_=>?_)<|λh=>er
 refine gK J J J J J ar3<|gK J J J J J C<|gK J J J J J s3<|rg 99 J J (λ_=>?_)<|λh=>er
 refine gK J J J J J ar5<|gK J J J J J H<|rlg I8 [7] J J J J J (gK J J J J J ar6<|gK J J J J J s4<|rg 108 J J (λ_=>?_)<|λh=>er)
 refine gK J J J J J vN<|rg 115 J J (λ_=>?_)<|λh=>er
 refine gK J J J J J ar4<|gK J J J J J F<|rg 123 J J (λ_=>?_)<|λh=>er
 exact gK J J J J J X<|gK J J J J J s5<|re J<|cx J
end Go.El
