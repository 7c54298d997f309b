/- Plain: a small solution of linear equations with integers, by counting; few primes divide a resultant. Own work; no condition. -/
import Derived.Test.YtceihkmakfdcnaaGreatB9
import Derived.Test.YtceihkmakfdcnaaGreatB8
import Derived.Test.YtceihkmakfdcnaaGreatB7
import Derived.Test.YtceihkmakfdcnaaGreatB4
import Derived.Test.YtceihkmakfdcnaaGreatB3
import Derived.Test.YtceihkmakfdcnaaGreatB6
set_option linter.all false
set_option maxHeartbeats 16000000
set_option maxRecDepth 100000
open Bool renaming true->ae,false->ah
open Classical renaming choose->yb
open Go.El renaming rr->e,cS->S,K0->F,ij->U,re->z,dj->j,cI->O,ahT->r,rb->R
open Go.Proofs.Tryz renaming prog->c
open Int renaming natAbs->aA,toNat->af
open List renaming getD->I,range->cw,length->Z,replicate->bl,take->M
open Nat renaming lt_or_gt_of_ne->aoQ,div_div_eq_div_mul->aoR,one_pos->Gu,add_mul_div_right->aoS,testBit->mY
open Option renaming some->ad
open Quotient renaming liftOn₂->aoZ,liftOn->ao0
open _root_ renaming Nat->V,Int->Y,List->E
namespace Go.El
open Go Go.Proofs Go.RowKit
def Ol:∀(b a:V)(f:V->V),b<a->(∀i,i<a->f i<b)->∃i d,i<d/\d<a/\f i=f d
 |0,a,f,h,l=>absurd (l 0 h) G
 |b+1,a,f,h,l=>by
  by_cases m:∃i,i<a/\f i=b
  .let ⟨i0,u,h2⟩:=m;by_cases p:∃i,i<a/\i≠i0/\f i=b
   .let ⟨i1,s,t,n⟩:=p;rcases aoQ t with o|o
    .exact⟨i1,i0,o,u,by rw[n,h2]⟩
    .exact⟨i0,i1,o,s,by rw[n,h2]⟩
   .have k:∀i,i<a->i≠i0->f i<b:=λi g v=>by
     have:=l i g;have:f i≠b:=λm=>p ⟨i,g,v,m⟩
     omega
    let ⟨i,d,s,t,n⟩:=Ol b (a-1) (λi=>if i<i0 then f i else f (i+1)) G λi g=>by
     split
     .exact k i G G
     .exact k (i+1) G G
    refine⟨if i<i0 then i else i+1,if d<i0 then d else d+1,?_,?_,?_⟩
    .split<;>split<;>omega
    .split<;>omega
    .split<;>split<;>simp_all
  .exact Ol b a f G λi g=>by
    have:=l i g;have:f i≠b:=λw=>m ⟨i,g,w⟩
    omega
def ac7{K:V}(k:0<K):∀(C i a:V),i<K^C->a<K^C->(∀b,b<C->i/K^b%K=a/K^b%K)->i=a
 |0,i,a,d,f,_=>by rw[oC]at d f;omega
 |C+1,i,a,d,f,h=>by
  have g:=h 0 G;rw[oC,Nat.div_one,Nat.div_one]at g;have l:=ac7 k C (i/K) (a/K) (yT<|by rwa[fQ,hJ]at d) (yT<|by rwa[fQ,hJ]at f) λb m=>by have:=h (b+1) G;rwa[fQ,hJ,<-aoR,<-aoR]at this
  rw[<-ru i K,<-ru a K,g,l]
def code(K:V)(v:V->V):V->V
 |0=>0
 |a+1=>code K v a+v a*K^a
def Jq{K:V}(v:V->V):∀a,(∀b,b<a->v b<K)->code K v a<K^a
 |0,_=>Gu
 |a+1,h=>by
  have f:=Jq v a λb g=>h b G
  have d:=et (K^a) (show v a+1<=K from h a G);rw[gy,iG]at d;rw[code,fQ,hJ (K^a) K];omega
def UL{K:V}(v w:V->V):∀a,(∀b,b<a->v b<K)->(∀b,b<a->w b<K)->code K v a=code K w a->∀b,b<a->v b=w b
 |0,_,_,_,b,f=>absurd f G
 |a+1,hv,hw,h,b,f=>by
  have i:=Jq v a λb f=>hv b G
  have k:=Jq w a λb f=>hw b G
  rw[code,code]at h;have d:0<K^a:=G;have g:v a=w a:=by
   have l:(code K v a+v a*K^a)/K^a=v a:=by rw[aoS _ _ d,B7 i,eP]
   have m:(code K w a+w a*K^a)/K^a=w a:=by rw[aoS _ _ d,B7 k,eP]
   rw[<-l,<-m,h]
  by_cases e:b=a
  .rw[e];exact g
  .exact UL v w a (λb f=>hv b G) (λb f=>hw b G) (by rw[g]at h;omega) b G
def ac8{f:V->Y}{g:V->V}{X:V}:∀n,(∀i,i<n->(f i).natAbs<=g i*X)->(sm f n).natAbs<=sN g n*X
 |0,_=>by simp[sm]
 |n+1,h=>by
  have a:=ac8 n λi b=>h i G
  have d:=h n G;rw[sm,sN,gy];omega
def ac9(f g:V->Y):∀k,sm (λi=>f i-g i) k=sm f k-sm g k
 |0=>rfl
 |k+1=>by simp only[sm,ac9 f g k];omega
def aoT(k:V->V->Y) d W(H:∀b,b<d->sN (λa=>aA<|k b a) (d+1)<=W)(L:1<=W):
  ∃x:V->Y,(∃a,a<d+1/\x a≠0)/\(∀a,a<d+1->aA (x a)<=(2*W)^d)/\∀b,b<d->sm (λa=>k b a*x a) (d+1)=0:=by
 obtain⟨X,u⟩:∃X,X=(2*W)^d:=⟨_,J⟩
 let f:V->V->Y:=λi a=>((i/(X+1)^a%(X+1):V):Y)
 have l:∀i a,0<=f i a/\f i a<=X:=λi a=>by have:=fN (i/(X+1)^a) (G:0<X+1);show 0<=((i/(X+1)^a%(X+1):V):Y)/\((i/(X+1)^a%(X+1):V):Y)<=X;omega
 have m:∀i b,b<d->(sm (λa=>k b a*f i a)<|d+1).natAbs<=W*X:=λi b h=>by refine b6 (ac8 (g:=λa=>aA<|k b a) (X:=X) (d+1) λa _=>?_)<|et X<|H b h;rw[rP];have:=l i a;exact jk _ G
 let v:V->V->V:=λi b=>(sm (λa=>k b a*f i a) (d+1)+((W*X:V):Y)).toNat
 have n:∀i b,b<d->v i b<2*W*X+1/\((v i b:V):Y)=sm (λa=>k b a*f i a) (d+1)+((W*X:V):Y):=λi b h=>by
  have o:=m i b h;have e:v i b=(sm (λa=>k b a*f i a) (d+1)+((W*X:V):Y)).toNat:=rfl;have y:2*W*X=W*X+W*X:=by rw[wh,Nat.two_mul]
  generalize sm (λa=>k b a*f i a) (d+1)=s at*;rw[e];omega
 have p:(2*W*X+1)^d<(X+1)^(d+1):=by
  have o:2*W*X+1<=2*W*(X+1):=by rw[zO,oW];omega
  have w:=z7 o d;rw[Nat.mul_pow,<-u]at w;have B:X*(X+1)^d<(X+1)*(X+1)^d:=T6 G<|km G;rw[fQ,hJ<|(X+1)^d];omega
 let ⟨i,j,o,w,B⟩:=Ol _ _ (λi=>code (2*W*X+1) (v i) d) p λi _=>Jq (v i) d λb h=>(n i b h).1
 have P:=UL (v i) (v j) d (λb h=>(n i b h).1) (λb h=>(n j b h).1) B
 refine⟨λa=>f i a-f j a,?_,λa _=>?_,λb h=>?_⟩
 .refine fc λQ=>?_
  have:i=j:=ac7 (K:=X+1) G (d+1) i j G G λa T=>by
   have t:f i a-f j a=0:=fc λt=>Q ⟨a,T,t⟩
   have z:((i/(X+1)^a%(X+1):V):Y)-((j/(X+1)^a%(X+1):V):Y)=0:=t;omega
  omega
 .have C:=l i a;have q:=l j a;show aA (f i a-f j a)<=_;rw[<-u];omega
 .have C:=(n i b h).2;have q:=(n j b h).2;have e:sm (λa=>k b a*(f i a-f j a)) (d+1)=sm (λa=>k b a*f i a) (d+1)-sm (λa=>k b a*f j a) (d+1):=by rw[<-ac9];exact gG λa _=>Ff _ _ _
  rw[e];rw[P b h]at C;omega
def Cz(f g:PS)(n b a:V):Y:=if a<n then(if a<=b then f (b-a)else 0)else if a<2*n+1 then(if a-n<=b then g (b-(a-n))else 0)else(if b=0 then-1 else 0)
def ac'(f:V->Y)(a:V):∀b,sm f (a+b)=sm f a+sm (λi=>f<|a+i) b
 |0=>by simp[sm]
 |b+1=>by rw[<-q',sm,ac' f a b,sm];omega
def ada{f:V->V}{m:V}:∀n,(∀i,i<n->f i<=m)->sN f n<=n*m
 |0,_=>by simp[sN]
 |n+1,h=>by
  have a:=ada n λi b=>h i G
  have d:=h n G;rw[sN,gy,iG];omega
def adb{f g}{n}{B}(s:1<=B)(H:∀i,n+1<i->f i=0)(L:∀i,n<i->g i=0)(P:∀i,(f i).natAbs<=B)(Q:∀i,(g i).natAbs<=B):
  ∃(u v:PS)(b:Y),(∀i,n<=i->u i=0)/\(∀i,n+1<=i->v i=0)/\u*f+v*g=PS.K b/\aA b<=(2*((2*n+2)*B))^(2*n+1)/\(b=0->v=0->u=0->False)/\∀i,aA (v i)<=(2*((2*n+2)*B))^(2*n+1):=by
 let ⟨x,⟨c0,M,h2⟩,t,C⟩:=aoT (Cz f g n) (2*n+1) ((2*n+2)*B) (λr _=>ada _ λc _=>by
  unfold Cz;split
  .split
   .exact P _
   .exact bf _
  .split
   .split
    .exact Q _
    .exact bf _
   .split
    .exact s
    .exact bf _) (by have:=l0 (G:1<=2*n+2) s;omega)
 refine⟨λi=>if i<n then x i else 0,λi=>if i<n+1 then x (n+i)else 0,x (2*n+1),λi l=>y G,λi l=>y G,?_,t _ G,?_,λi=>?_⟩
 .refine PS.ext λr=>?_
  have w:∀(h A:PS)(m k:V),(∀i,m<=i->A i=0)->(A*h) k=sm (λc=>(if c<=k then h (k-c)else 0)*A c) m:=λh A m k T=>by
   rw[PS.fD];have W:∀d,sm (λc=>(if c<=k then h (k-c)else 0)*A c) (k+1+d)=sm (λc=>(if c<=k then h (k-c)else 0)*A c) (k+1):=λd=>by
    induction d with
    |zero=>rfl
    |succ d o=>rw[<-q',sm,o,y G,nh,rK]
   have X:∀d,sm (λc=>(if c<=k then h (k-c)else 0)*A c) (m+d)=sm (λc=>(if c<=k then h (k-c)else 0)*A c) m:=λd=>by
    induction d with
    |zero=>rfl
    |succ d o=>rw[<-q',sm,o,T _ G,gY,rK]
   rw[<-X (k+1),Lf m,W m];exact gG λc a=>by rw[q G,eW]
  rw[PS.eo,w f _ n r<|λi l=>y G,w g _ (n+1) r<|λi l=>y G];by_cases j:r<2*n+1
  .have p:=C r j;rw[(G:2*n+1+1=n+(n+1)+1),sm,ac']at p;have z:sm (λc=>Cz f g n r c*x c) n=sm (λc=>(if c<=r then f (r-c)else 0)*(if c<n then x c else 0)) n:=gG λc a=>by rw[Cz,q a,q a]
   have E:sm (λi=>Cz f g n r (n+i)*x (n+i)) (n+1)=sm (λc=>(if c<=r then g (r-c)else 0)*(if c<n+1 then x (n+c)else 0)) (n+1):=gG λc a=>by rw[Cz,y G,q G,q a,IK]
   rw[z,E,Cz,y G,y G]at p;rw[PS.K,(G:2*n+1=n+(n+1))];split at p
   .rename_i e;rw[q e];omega
   .rename_i e;rw[y e];omega
  .rw[PS.K,y G,qF λc a=>?_,qF λc a=>?_]
   .rfl
   .split
    .exact(bh (·*_)<|L _ G).trans<|nh _
    .rw[nh]
   .split
    .exact(bh (·*_)<|H _ G).trans<|nh _
    .rw[nh]
 .intro F I J;refine h2 ?_;by_cases c1:c0<n
  .have:=congrFun J c0;rwa[q c1]at this
  .by_cases N:c0<2*n+1
   .have:=congrFun I<|c0-n;rwa[q G,(G:n+(c0-n)=c0)]at this
   .rw[(G:c0=2*n+1)];exact F
 .show aA (if i<n+1 then x (n+i)else 0)<=_;split
  .exact t _ G
  .exact bf _
def aoU{f g}{n}{B}(b:1<=B)(d:∀i,n+1<i->f i=0)(h:∀i,n<i->g i=0)(k:∀i,(f i).natAbs<=B)(l:∀i,(g i).natAbs<=B):
  ∃(u v:PS)(a:Y),(∀i,n<=i->u i=0)/\(∀i,n+1<=i->v i=0)/\u*f+v*g=PS.K a/\aA a<=(2*((2*n+2)*B))^(2*n+1)/\(a=0->v=0->u=0->False):=
 let ⟨u,v,a,m,h2,o,p,s,_⟩:=adb b d h k l
 ⟨u,v,a,m,h2,o,p,s⟩
def ade{D:V}:∀{l:E V},l.Nodup->(∀p∈l,dE p/\p∣D)->qQ l∣D
 |[],_,_=>Nat.one_dvd D
 |p::l,o,h=>by
  let ⟨s,h2⟩:=AL.1 o;have g:=ade h2 λq i=>h q (by simp[i])
  have f:=(h p ax).1;have t:Nat.Coprime p (qQ l):=f.coprime λd=>by
   have k:∀{l:E V},(∀q∈l,dE q/\q∣D)->p∣qQ l->p∈l:=by
    intro l;induction l with
    |nil=>intro _ d;have u:=f.1;have:=wi Gu d;omega
    |cons q l g=>
     intro m d
     rcases f.dvd_mul (a:=q) (b:=qQ l) d with e|e
     .rcases(m q ax).1.Fv e with n|n
      .have u:=f.1;omega
      .rw[n];simp
     .have:=g (λr v=>m r<|by simp[v]) e;simp[this]
   exact s<|k (λq i=>h q<|by simp[i]) d
  exact t.mul_dvd_of_dvd_of_dvd (h p ax).2 g
def aoV:r7.Nodup:=by
 have h:(r7.zip<|r7.drop 1).all (λx=>Nat.blt x.1 x.2)=ae:=eL;have f:∀(l:E V),(l.zip<|List.drop 1 l).all (λx=>Nat.blt x.1 x.2)=ae->l.Pairwise (·<·):=by
  intro l;induction l with
  |nil=>intro _;exact .nil
  |cons a l i=>
   intro h
   cases l with
   |nil=>exact UM _ _
   |cons b l=>
    have h:(((a,b)::((b::l).zip l)).all λx=>Nat.blt x.1 x.2)=ae:=h
    rw[List.all_cons,cD]at h
    have g:=i h.2
    refine jP.2 ⟨λc k=>?_,g⟩
    have d:a<b:=cP h.1
    rcases bZ.1 k with e|e
    .rw[e];exact d
    .exact Nat.lt_trans d<|(jP.1 g).1 c e
 exact(f r7 h).imp λh=>Nat.ne_of_lt h
def ya:V:=2^3089
def aoW:Nat.ble (ya+1) (qQ r7)=ae:=eL
def adf{a b}(h:Nat.ble (a+1) b=ae):a<b:=Nat.lt_of_succ_le<|cP h
def aoX:ya<qQ r7:=adf aoW
def aoY{l}(d:l.Nodup)(f:∀p∈l,dE p)(g:ya<qQ l){a}(o:a≠0)(h:aA a<=ya):∃p∈l,¬(p:Y)∣a:=fc λi=>by
 have k:=ade (D:=aA a) d λp b=>⟨f p b,UN.1<|fc λm=>i ⟨p,b,m⟩⟩
 have n:=wi G k;exact absurd h<|Nat.not_le_of_lt<|fO g n
def UO(p:Y):Setoid {a:PS//bp p a}:=⟨λa B=>Cg p a.1 B.1,⟨λa=>Cg.refl p a.1,Cg.symm,Cg.trans⟩⟩
def Fx(p:Y):Type:=Quotient<|UO p
namespace Fx
variable{p:Y}
def mk(a:PS)(h:bp p a):Fx p:=Quotient.mk (UO p) ⟨a,h⟩
def mk_eq{a B}{h:bp p a}{k:bp p B}:mk a h=mk B k↔Cg p a B:=⟨λe=>Quotient.exact e,λe=>Quotient.sound (s:=UO p) e⟩
def ex x:∃a,∃h:bp p a,x=mk a h:=by refine Quotient.inductionOn x<|λa=>?_;exact⟨a.1,a.2,J⟩
instance:Add (Fx p):=⟨λx y=>aoZ x y (λA B=>mk (A.1+B.1)<|A.2.add B.2)<|λ_ _ _ _ h k=>mk_eq.2<|Cg.add h k⟩
instance:Mul (Fx p):=⟨λx y=>aoZ x y (λA B=>mk (A.1*B.1)<|A.2.mul B.2)<|λ_ _ _ _ h k=>mk_eq.2<|Cg.mul h k⟩
instance:Neg (Fx p):=⟨λx=>ao0 x (λA=>mk (-A.1) A.2.neg)<|λ_ _ h=>mk_eq.2<|Cg.neg h⟩
instance:_root_.Sub (Fx p):=⟨λx y=>x+ -y⟩
instance:OfNat (Fx p) 0:=⟨mk 0<|bp.zero p⟩
instance:OfNat (Fx p) 1:=⟨mk 1<|bp.one p⟩
def adg{a B}{h:bp p a}{k:bp p B}:mk a h+mk B k=mk (a+B) (h.add k):=rfl
def adh{a B}{h:bp p a}{k:bp p B}:mk a h*mk B k=mk (a*B) (h.mul k):=rfl
def mk_congr{a B}(b:a=B)(h:bp p a)(k:bp p B):mk a h=mk B k:=mk_eq.2<|Cg.of_eq b
def add_comm(x a:Fx p):x+a=a+x:=by obtain⟨A,h,rfl⟩:=ex x;obtain⟨B,k,rfl⟩:=ex a;exact mk_congr (PS.add_comm A B) _ _
def add_assoc(x a b:Fx p):x+a+b=x+(a+b):=by obtain⟨A,h,rfl⟩:=ex x;obtain⟨B,k,rfl⟩:=ex a;obtain⟨C,l,rfl⟩:=ex b;exact mk_congr (PS.add_assoc A B C) _ _
def mul_comm(x a:Fx p):x*a=a*x:=by obtain⟨A,h,rfl⟩:=ex x;obtain⟨B,k,rfl⟩:=ex a;exact mk_congr (PS.mul_comm A B) _ _
def mul_assoc(x a b:Fx p):x*a*b=x*(a*b):=by obtain⟨A,h,rfl⟩:=ex x;obtain⟨B,k,rfl⟩:=ex a;obtain⟨C,l,rfl⟩:=ex b;exact mk_congr (PS.mul_assoc A B C) _ _
def mul_add(x a b:Fx p):x*(a+b)=x*a+x*b:=by obtain⟨A,h,rfl⟩:=ex x;obtain⟨B,k,rfl⟩:=ex a;obtain⟨C,l,rfl⟩:=ex b;exact mk_congr (PS.mul_add A B C) _ _
def add_mul(x b a:Fx p):(x+b)*a=x*a+b*a:=by rw[mul_comm,mul_add,mul_comm a x,mul_comm a b]
def zero_add(x:Fx p):0+x=x:=by obtain⟨A,h,rfl⟩:=ex x;exact mk_congr (PS.zero_add A) ((bp.zero p).add h) h
def add_zero(x:Fx p):x+0=x:=by rw[add_comm,zero_add]
def one_mul(x:Fx p):1*x=x:=by obtain⟨A,h,rfl⟩:=ex x;exact mk_congr (PS.one_mul A) ((bp.one p).mul h) h
def mul_one(x:Fx p):x*1=x:=by rw[mul_comm,one_mul]
def zero_mul(x:Fx p):0*x=0:=by obtain⟨A,h,rfl⟩:=ex x;exact mk_congr (PS.zero_mul A) ((bp.zero p).mul h)<|bp.zero p
def mul_zero(x:Fx p):x*0=0:=by rw[mul_comm,zero_mul]
def add_neg(x:Fx p):x+ -x=0:=by obtain⟨A,h,rfl⟩:=ex x;exact mk_congr (PS.add_neg A) (h.add h.neg)<|bp.zero p
def neg_add(x:Fx p): -x+x=0:=by rw[add_comm,add_neg]
def sub_def(x a:Fx p):x-a=x+ -a:=rfl
instance:Std.Associative (α:=Fx p) (·+·):=⟨add_assoc⟩
instance:Std.Commutative (α:=Fx p) (·+·):=⟨add_comm⟩
instance:Std.Associative (α:=Fx p) (·*·):=⟨mul_assoc⟩
instance:Std.Commutative (α:=Fx p) (·*·):=⟨mul_comm⟩
def add_left_cancel{x a b:Fx p}(h:x+a=x+b):a=b:=by have:=bh (-x+·) h;simpa only[<-add_assoc,neg_add,zero_add]using this
def lF(x a:Fx p):x-a+a=x:=by rw[sub_def,add_assoc,neg_add,add_zero]
def xZ(x a:Fx p):x+a-a=x:=by rw[sub_def,add_assoc,add_neg,add_zero]
def FG{x a b:Fx p}(h:x+a=b):x=b-a:=by rw[<-h,xZ]
def sub_eq{x a b:Fx p}(h:x=b+a):x-a=b:=by rw[h,xZ]
def sub_self(x:Fx p):x-x=0:=add_neg x
def sub_zero(x:Fx p):x-0=x:=sub_eq (add_zero x).symm
def Cq{x a:Fx p}(h:x-a=0):x=a:=by rw[<-lF x a,h,zero_add]
def sub_mul(x b a:Fx p):(x-b)*a=x*a-b*a:=FG (by rw[<-add_mul,lF])
def mul_sub(x a b:Fx p):x*(a-b)=x*a-x*b:=by rw[mul_comm,sub_mul,mul_comm a,mul_comm b]
def neg_mul(x a:Fx p): -x*a= -(x*a):=add_left_cancel (x:=x*a) (by rw[<-add_mul,add_neg,add_neg,zero_mul])
def mul_neg(x a:Fx p):x* -a= -(x*a):=by rw[mul_comm,neg_mul,mul_comm]
def neg_sub(x a:Fx p): -(x-a)=a-x:=add_left_cancel (x:=x-a) (by rw[add_neg,sub_def,sub_def];have:x+ -a+(a+ -x)=(x+ -x)+(-a+a):=fq;rw[this,add_neg,neg_add,add_zero])
def I6(x a b:Fx p):(x-a)+(a-b)=x-b:=by rw[sub_def,sub_def,sub_def];have:x+ -a+(a+ -b)=x+ -b+(-a+a):=fq;rw[this,neg_add,add_zero]
def N2(x b a w:Fx p):(x+b)-(a+w)=(x-a)+(b-w):=sub_eq (by have:x-a+(b-w)+(a+w)=(x-a+a)+(b-w+w):=fq;rw[this,lF,lF])
instance:Dvd (Fx p):=⟨λa b=>∃w,b=w*a⟩
def dvd_refl(a:Fx p):a∣a:=⟨1,(one_mul a).symm⟩
def dvd_zero(a:Fx p):a∣0:=⟨0,(zero_mul a).symm⟩
def dvd_trans{a b d:Fx p}(h:a∣b)(k:b∣d):a∣d:=by obtain⟨w,rfl⟩:=h;obtain⟨v,rfl⟩:=k;exact⟨v*w,(mul_assoc v w a).symm⟩
def dvd_mul_left(a b:Fx p):a∣b*a:=⟨b,J⟩
def dvd_mul_right(a b:Fx p):a∣a*b:=⟨b,mul_comm a b⟩
def dQ{a b}(h:a∣b)(d:Fx p):a∣d*b:=dvd_trans h<|dvd_mul_left b d
def ma{a b}(h:a∣b)(d:Fx p):a∣b*d:=dvd_trans h<|dvd_mul_right b d
def dvd_add{a b d:Fx p}(h:a∣b)(k:a∣d):a∣b+d:=by obtain⟨w,rfl⟩:=h;obtain⟨v,rfl⟩:=k;exact⟨w+v,(add_mul w v a).symm⟩
def dvd_neg{a b:Fx p}(h:a∣b):a∣-b:=by obtain⟨w,rfl⟩:=h;exact⟨-w,(neg_mul w a).symm⟩
def dvd_sub{a b d:Fx p}(h:a∣b)(k:a∣d):a∣b-d:=dvd_add h<|dvd_neg k
def wo{a b d:Fx p}(h:a∣b+d)(k:a∣b):a∣d:=by have:=dvd_sub h k;rwa[add_comm b d,xZ]at this
def n5{a b d:Fx p}(h:a∣b-d):a∣d-b:=by rw[<-neg_sub];exact dvd_neg h
def np{a b f d:Fx p}(h:a∣b-f)(k:a∣f-d):a∣b-d:=by rw[<-I6 b f d];exact dvd_add h k
def N3{a b f d g:Fx p}(h:a∣b-f)(k:a∣d-g):a∣(b+d)-(f+g):=by rw[N2];exact dvd_add h k
def oD{a b f d g:Fx p}(h:a∣b-f)(k:a∣d-g):a∣b*d-f*g:=by
 have:b*d-f*g=(b-f)*d+f*(d-g):=by rw[sub_mul,mul_sub,I6]
 rw[this];exact dvd_add (ma h d)<|dQ k f
def n6(a b:Fx p):a∣b-b:=by rw[sub_self];exact dvd_zero a
def pk(a:Fx p):V->Fx p
 |0=>1
 |n+1=>pk a n*a
def rW(a:Fx p):pk a 1=a:=one_mul a
def zT(a:Fx p)(m:V):∀n,pk a (m+n)=pk a m*pk a n
 |0=>(mul_one _).symm
 |n+1=>by rw[<-q',pk,pk,zT a m n,mul_assoc]
def uS(a:Fx p)(m:V):∀n,pk a (m*n)=pk (pk a m) n
 |0=>rfl
 |n+1=>by rw[Nat.mul_succ,zT,pk,uS a m n]
def uT(a b:Fx p):∀n,pk (a*b) n=pk a n*pk b n
 |0=>(one_mul 1).symm
 |n+1=>by rw[pk,pk,pk,uT a b n];ac_rfl
def Cs:∀n,pk (1:Fx p) n=1
 |0=>rfl
 |n+1=>by rw[pk,Cs n,one_mul]
def adi{n}(h:0<n):pk (0:Fx p) n=0:=by obtain⟨m,rfl⟩:∃m,n=m+1:=⟨n-1,G⟩;rw[pk,mul_zero]
def Jr{a b d:Fx p}(h:a∣b-d):∀n,a∣pk b n-pk d n
 |0=>n6 a 1
 |n+1=>oD (Jr h n) h
def Om{a:PS}(h:bp p a):∀n(k:bp p (pw a n)),mk (pw a n) k=pk (mk a h) n
 |0,_=>rfl
 |n+1,k=>by
  have b:bp p (pw a n):=by
   clear k;induction n with
   |zero=>exact bp.one p
   |succ n d=>exact d.mul h
  rw[pk,<-Om h n b,adh];rfl
def On{a:PS}(h:bp p a):∀n,bp p (pw a n)
 |0=>bp.one p
 |n+1=>(On h n).mul h
def K(a:Y):Fx p:=mk (PS.K a)<|bp.K p a
def z8 k:bp p (PS.X k):=⟨_,an1 p k⟩
def X:Fx p:=mk (PS.X 1)<|z8 1
def fx(a:E Y):Fx p:=mk (ps a)<|bp.ps p a
def fp a b:(K (a*b):Fx p)=K a*K b:=mk_congr (PS.zM a b) _ _
def nj:(K 0:Fx p)=0:=mk_congr PS.nj _ _
def qM:(K 1:Fx p)=1:=rfl
def CA{a b}(h:a%p=b%p):(K a:Fx p)=K b:=mk_eq.2<|Cg.K h
def Uw{a b}(h:(K a:Fx p)=K b):a%p=b%p:=(mk_eq.1 h).at 0
def adk(a:Y):∀n,pk (K a:Fx p) n=K (a^n)
 |0=>by rw[o8,qM];rfl
 |n+1=>by rw[pk,adk a n,fH,fp]
def kz:(fx []:Fx p)=0:=mk_congr Cn _ _
def CB:(fx [1]:Fx p)=1:=mk_congr NW _ _
def UP a:(fx [a]:Fx p)=K a:=mk_congr (PS.ext λi=>by
 cases i with
 |zero=>rfl
 |succ i=>rfl) _ _
def ao1 b a:ps (b::a)=PS.K b+PS.X 1*ps a:=PS.ext λi=>by
 rw[PS.eo,PS.mL];cases i with
 |zero=>rw[y G];show b=PS.K b 0+0;rw[PS.K,q J];omega
 |succ i=>rw[q G];show I a i 0=PS.K b (i+1)+I a i 0;rw[PS.K,y G];omega
def Js b a:(fx (b::a):Fx p)=K b+X*fx a:=mk_congr (ao1 b a) _ _
def Oo{a b}(h:Cg p (ps a) (ps b)):(fx a:Fx p)=fx b:=mk_eq.2 h
def wG a b:(fx (cL a b p):Fx p)=fx a*fx b:=mk_eq.2<|Fz a b p
def FP a:(fx (aM a):Fx p)=fx a:=mk_congr (qK a) _ _
def adl a:(fx (md p a):Fx p)=fx a:=mk_eq.2<|acp p a
def UQ a b:(fx (aM<|gh a b p):Fx p)=fx a-fx b:=(show mk _ (bp.ps p _)=mk _ ((bp.ps p a).sub<|bp.ps p b)from mk_eq.2<|acu a b p).trans<|mk_congr (PS.sub_def _ _) _<|(bp.ps p a).add (bp.ps p b).neg
def uX{a b}(d:bx p a)(f:bx p b)(h:(fx a:Fx p)=fx b):a=b:=NV d f<|mk_eq.1 h
def adn{a b}(h:(fx a:Fx p)=fx b) i:I a i 0%p=I b i 0%p:=(mk_eq.1 h).at i
def jq(d:0<p)(b:Fx p):∃a,bx p a/\fx a=b:=by
 obtain⟨b,⟨n,g⟩,rfl⟩:=ex b;have f:∀i,I ((cw n).map λi=>b i%p) i 0=if i<n then b i%p else 0:=λi=>by
  rw[aN,iN];by_cases e:i<n
  .rw[q e,jV e];rfl
  .rw[y e,jS bX];rfl
 refine⟨aM<|(cw n).map λi=>b i%p,kZ d<|λi=>?_,?_⟩
 .rw[f];split
  .exact⟨iP _ G,iR _ d⟩
  .exact⟨hY _,d⟩
 .rw[FP];refine mk_eq.2<|Cg.of λi=>?_;rw[cG,f];split
  .rw[mM]
  .rw[g i G,gZ]
open Classical in
noncomputable def sz(b:Fx p):V:=if h:∃a,bx p a/\fx a=b then Z (yb h)else 0
def cX{a}(d:bx p a):sz (fx a:Fx p)=Z a:=by have h:∃b,bx p b/\(fx b:Fx p)=fx a:=⟨a,d,J⟩;unfold sz;rw[dif_pos h];have f:=wu h;rw[uX f.1 d f.2]
def z9{n}(f:0<p){b}(h:bp p b)(g:Dl p n b):sz (mk b h)<=n:=by let ⟨a,d,e⟩:=jq f<|mk b h;rw[<-e,cX d];exact d.len<|g.cg (mk_eq.1 e).symm
def N7(b:0<p) a:sz (fx a:Fx p)<=Z a:=z9 b _<|kY p a
def kv(a:0<p):sz (0:Fx p)=0:=by rw[<-kz,cX<|rU a];rfl
def Uy(b:0<p) a:sz (K a:Fx p)<=1:=z9 b _<|Ui p a
def Uz(d:0<p){b:Fx p}(h:sz b=0):b=0:=by obtain⟨a,f,rfl⟩:=jq d b;rw[cX f]at h;rw[gK h,kz]
def fo(b:0<p){a:Fx p}(h:a≠0):0<sz a:=by
 rcases qD (sz a)with e|e
 .exact absurd (Uz b e) h
 .exact e
def zW(d:0<p)(f B:Fx p):sz (f+B)<=max (sz f) (sz B):=by obtain⟨a,g,rfl⟩:=jq d f;obtain⟨b,h,rfl⟩:=jq d B;rw[cX g,cX h];exact z9 d _<|((kY p a).le G).add<|(kY p b).le G
def UA(d:0<p)(b:Fx p):sz (-b)<=sz b:=by obtain⟨a,f,rfl⟩:=jq d b;rw[cX f];exact z9 d _ (kY p a).neg
def FI(b:0<p)(a B:Fx p):sz (a-B)<=max (sz a) (sz B):=by have d:=zW b a<| -B;have f:=UA b B;rw[sub_def];omega
end Fx
structure br(p:V):Prop where
 hp:dE p
 le:p<=2147483648
def br.pos{p}(H:br p):(0:Y)<(p:Y):=CC
def br.one{p}(H:br p):(1:Y)%(p:Y)=1:=by have:=H.hp.1;exact gX D G
namespace Fx
variable{p:V}
def qN(H:br p):(1:Fx p)≠0:=λe=>by rw[<-qM,<-nj]at e;have:=Uw e;rw[H.one,gZ]at this;cases this
def ph(H:br p){c}(h:c%(p:Y)≠0):∃d,(K d*K c:Fx p)=1:=by have a:=iP c (show(p:Y)≠0 by have:=H.pos;omega);have b:=iR c H.pos;have e:(K c:Fx p)=K (c%(p:Y)):=CA (by rw[mM]);refine⟨((jc (af<|c%(p:Y)) (af ((p:V):Y)):V):Y),?_⟩;rw[e,<-fp,<-qM];refine CA ?_;rw[eW,FB H.hp H.le a b h,H.one]
def s7(H:br p){a}(h:a%(p:Y)≠0):(K a:Fx p)≠0:=λe=>by let ⟨d,b⟩:=ph H h;rw[e,mul_zero]at b;exact qN H b.symm
def ef(H:br p){d B:Fx p}(s:d≠0)(t:B≠0):sz (d*B)+1=sz d+sz B:=by
 obtain⟨a,h,rfl⟩:=jq H.pos d;obtain⟨b,i,rfl⟩:=jq H.pos B;have u:=fo H.pos s;have v:=fo H.pos t;rw[cX h]at u⊢;rw[cX i]at v⊢;obtain⟨n,k⟩:∃n,Z a=n+1:=⟨Z a-1,G⟩;obtain⟨m,l⟩:∃m,Z b=m+1:=⟨Z b-1,G⟩;have f:=kY (p:Y) a;have g:=kY (p:Y) b;rw[k]at f⊢;rw[l]at g⊢;have w:=z9 H.pos ((bp.ps (p:Y) a).mul<|bp.ps p b)<|f.mul g;rw[<-wG,cX<|nk H.pos a b];have o:=Cp H.hp f g (h.top k)<|i.top l;have x:=(Fz a b (p:Y)).at (n+m);have C:Z (cL a b (p:Y))<=n+(m+1):=by have e:sz (fx (cL a b p):Fx p)=Z (cL a b p):=cX<|nk H.pos a b;rw[wG]at e;rw[<-e];exact w
 by_cases e:Z (cL a b (p:Y))<=n+m
 .exfalso;rw[<-x,cG,fh _ e,gZ]at o;exact o J
 .omega
def nZ(H:br p){a B:Fx p}(b:a≠0)(d:B≠0):a*B≠0:=λe=>by have h:=ef H b d;rw[e,kv H.pos]at h;have f:=fo H.pos b;have g:=fo H.pos d;omega
def zY(H:br p){A B C:Fx p}(a:A≠0)(h:B*A=C*A):B=C:=by
 refine Cq ?_;refine fc λb=>?_
 exact nZ H b a (by rw[sub_mul,h,sub_self])
def rZ(H:br p):sz (1:Fx p)=1:=by have a:=Uy H.pos 1 (p:=(p:Y));have b:=fo H.pos<|qN H;rw[qM]at a;omega
def FJ(H:br p){f:Fx p}(h:sz f=1):∃b:Y,b%(p:Y)≠0/\f=K b:=by
 obtain⟨a,d,rfl⟩:=jq H.pos f;rw[cX d]at h;match a,h,d with
 |[b],_,d=>exact⟨b,d.top (n:=0) J,UP b⟩
def wy(H:br p){a}(h:sz a=1):∃B:Fx p,B*a=1:=by obtain⟨c,b,rfl⟩:=FJ H h;let ⟨d,f⟩:=ph H b;exact⟨_,f⟩
def x4(H:br p){a B:Fx p}(h:B*a=1):sz a=1:=by
 have b:a≠0:=λe=>qN H (by rw[<-h,e,mul_zero])
 have d:B≠0:=λe=>qN H (by rw[<-h,e,zero_mul])
 have f:=ef H d b;rw[h,rZ H]at f;have g:=fo H.pos b;have i:=fo H.pos d;omega
def dvd_one(H:br p){a:Fx p}(h:a∣1):sz a=1:=by let ⟨w,hw⟩:=h;exact x4 H hw.symm
def jK(H:br p){a B:Fx p}(h:a∣B)(b:B≠0):sz a<=sz B:=by
 obtain⟨w,rfl⟩:=h;have d:w≠0:=λe=>b I'
 have f:a≠0:=λe=>b (by rw[e,mul_zero])
 have g:=ef H d f;have pw:=fo H.pos d;omega
def s8(H:br p){A B:Fx p}(h:A∣B)(a:sz B<sz A):B=0:=
 fc λb=>by have:=jK H h b;omega
def UB(H:br p) f{B:Fx p}(k:B≠0):∃Q g,f=Q*B+g/\sz g<sz B:=by
 obtain⟨a,h,rfl⟩:=jq H.pos f;obtain⟨b,i,rfl⟩:=jq H.pos B;have d:b≠[]:=λe=>k (by rw[e,kz])
 let ⟨d1,d2,d3,d4,d5,d6⟩:=l6 H.hp H.le h.1 i d;refine⟨fx (aO a b p).1,fx (aO a b p).2,mk_eq.2 d1,?_⟩;rw[cX i,cX<|d5 h];have:=cR.2 d;omega
def Ct(H:br p):∀(n:V)(b B:Fx p),sz B<n->∃d f a,d∣b/\d∣B/\d=f*b+a*B
 |0,_,_,h=>by omega
 |n+1,b,B,h=>by
  by_cases i:B=0
  .subst i;exact⟨b,1,0,dvd_refl b,dvd_zero b,by rw[one_mul,mul_zero,add_zero]⟩
  .let ⟨Q,g,k,h2⟩:=UB H b i;let ⟨d,f,a,l,m,o⟩:=Ct H n B g G;refine⟨d,a,f-a*Q,?_,l,?_⟩
   .rw[k];exact dvd_add (dQ l Q) m
   .rw[o,k,mul_add,sub_mul];have:a*(Q*B)+a*g+(f*B-a*Q*B)=(f*B-a*Q*B+a*Q*B)+a*g:=fq;rw[this,lF]
def Co(a B:Fx p):Prop:=∃U V,U*a+V*B=1
def Co.symm{a B:Fx p}(h:Co a B):Co B a:=by let ⟨U,V,h⟩:=h;exact⟨V,U,by rw[add_comm];exact h⟩
def ao2{a b}:Co (fx a:Fx p) (fx b)↔xY p (ps a) (ps b):=by
 constructor
 .rintro⟨U,V,h⟩;obtain⟨U,d,rfl⟩:=ex U;obtain⟨V,f,rfl⟩:=ex V;exact⟨U,V,d,f,mk_eq.1 (h:mk _ ((d.mul<|bp.ps p a).add<|f.mul<|bp.ps p b)=mk 1 (bp.one p))⟩
 .rintro⟨U,V,d,f,h⟩;exact⟨mk U d,mk V f,mk_eq.2 h⟩
def Co.dvd{a B C:Fx p}(h:Co a B)(k:a∣B*C):a∣C:=by
 let ⟨U,V,h⟩:=h;have:C=C*U*a+V*(B*C):=by have b:C*(U*a)+C*(V*B)=C*U*a+V*(B*C):=fq;rw[<-b,<-mul_add,h,mul_one]
 rw[this];exact dvd_add (dvd_mul_left a _)<|dQ k V
def Co.ao3{a B C:Fx p}(h:Co a B)(b:a∣C)(kb:B∣C):a*B∣C:=by obtain⟨w,rfl⟩:=kb;rw[mul_comm w B]at b;obtain⟨v,rfl⟩:=h.dvd b;exact⟨v,fq⟩
def Co.mul{a B C:Fx p}(h:Co a B)(k:Co a C):Co a (B*C):=by
 let ⟨U,V,h⟩:=h;let ⟨b,d,k⟩:=k;refine⟨U*b*a+U*(d*C)+V*B*b,V*d,?_⟩;have:(U*a+V*B)*(b*a+d*C)=1:=by rw[h,k,one_mul]
 rw[<-this];simp only[mul_add,add_mul];ac_rfl
def Co.unit{a B:Fx p}(H:br p)(h:Co a B)(k:a∣B):sz a=1:=by let ⟨U,V,h⟩:=h;exact dvd_one H<|h▸dvd_add (dvd_mul_left a U) (dQ k V)
def bu(Q:Fx p):Prop:=2<=sz Q/\∀A B,Q=A*B->sz A=1\/sz B=1
def bu.ne{Q:Fx p}(H:br p)(h:bu Q):Q≠0:=λe=>by have:=h.1;rw[e,kv H.pos]at this;omega
def bu.or{Q}(H:br p)(h:bu Q)(a:Fx p):Q∣a\/Co Q a:=by
 let ⟨D,U,V,d,h2,f⟩:=Ct H _ Q a<|dJ _;let ⟨w,hw⟩:=d;rcases h.2 _ _ hw with e|e
 .let ⟨B,b⟩:=wy H e;left;refine dvd_trans ⟨B,?_⟩ h2;rw[hw,<-mul_assoc,b,one_mul]
 .let ⟨B,b⟩:=wy H e;right;refine⟨B*U,B*V,?_⟩;rw[<-b,f,mul_add,mul_assoc,mul_assoc]
def bu.Cu{Q:Fx p}(H:br p)(h:bu Q):¬Q∣1:=λe=>by have:=dvd_one H e;have:=h.1;omega
def bu.oE{Q}(H:br p)(h:bu Q){a B:Fx p}(k:Q∣a*B):Q∣a\/Q∣B:=by
 rcases h.or H a with e|e
 .exact .inl e
 .exact .inr<|e.dvd k
def s'(H:br p):∀(n:V)(a:Fx p),sz a<n->2<=sz a->∃Q,bu Q/\Q∣a
 |0,_,h,_=>by omega
 |n+1,a,h,h2=>by
  by_cases d:bu a
  .exact⟨a,d,dvd_refl a⟩
  .have:∃B C,a=B*C/\¬(sz B=1\/sz C=1):=fc λl=>d ⟨h2,λB C e=>fc λf=>l ⟨B,C,e,f⟩⟩
   let ⟨B,C,e,f⟩:=this;have g:a≠0:=λe=>by rw[e,kv H.pos]at h2;omega
   have i:B≠0:=λb=>g (by rw[e,b,zero_mul])
   have k:C≠0:=λb=>g (by rw[e,b,mul_zero])
   have m:=ef H i k;rw[<-e]at m;have t:=fo H.pos i;have u:=fo H.pos k;let ⟨Q,o,s⟩:=s' H n B G G;exact⟨Q,o,by rw[e];exact ma s C⟩
def FK(H:br p){a B:Fx p}(f:a≠0)(h:∀Q,bu Q->Q∣a->Q∣B->False):Co a B:=by
 let ⟨D,U,V,b,h2,g⟩:=Ct H _ a B<|dJ _;have i:D≠0:=λe=>by let ⟨w,hw⟩:=b;rw[e,mul_zero]at hw;exact f hw
 have m:=fo H.pos i;by_cases e:sz D=1
 .let ⟨C,k⟩:=wy H e;refine⟨C*U,C*V,?_⟩;rw[<-k,g,mul_add,mul_assoc,mul_assoc]
 .let ⟨Q,l,d⟩:=s' H _ D (dJ _) G;exact(h Q l (dvd_trans d b)<|dvd_trans d h2).elim
def IT(H:br p)(a B:Fx p):pk (a+B) p=pk a p+pk B p:=by obtain⟨a,b,rfl⟩:=ex a;obtain⟨B,d,rfl⟩:=ex B;rw[adg,<-Om (b.add d) _ (On (b.add d) _),<-Om b _ (On b _),<-Om d _ (On d _),adg];exact mk_eq.2<|H.hp.IT a B
def Fw(H:br p) b:pk (K b:Fx p) p=K b:=by have d:=iP b (show(p:Y)≠0 by have:=H.pos;omega);let ⟨a,f⟩:=Cc d;have e:(K b:Fx p)=K (a:Y):=CA (by rw[<-f,mM]);rw[e,adk];exact CA<|H.hp.Fw a
def Oq(H:br p)(a B:Fx p):∀i,pk (a+B) (p^i)=pk a (p^i)+pk B (p^i)
 |0=>by simp only[oC,rW]
 |i+1=>by rw[fQ,uS,uS,uS,Oq H a B i,IT H]
def UR(H:br p)(a:Y):∀i,pk (K a:Fx p) (p^i)=K a
 |0=>rW _
 |i+1=>by rw[fQ,uS,UR H a i,Fw H]
def ev:E (Fx p)->Fx p->Fx p
 |[],_=>1
 |b::cs,a=>b+a*ev cs a
def ado(a:Fx p):∀(d:E (Fx p))(f:Fx p),∃g:E (Fx p),Z g=Z d/\∀b,ev (f::d) b=ev (f::d) a+(b-a)*ev g b
 |[],f=>⟨[],J,λb=>by show f+b*1=f+a*1+(b-a)*1;rw[mul_one,mul_one,mul_one,add_assoc,add_comm a,lF]⟩
 |h::d,f=>by let ⟨g,h1,h2⟩:=ado a d h;refine⟨ev (h::d) a::g,z4,λb=>?_⟩;show f+b*ev (h::d) b=f+a*ev (h::d) a+(b-a)*(ev (h::d) a+b*ev g b);rw[h2 b];generalize ev (h::d) a=w;generalize ev g b=v;rw[mul_add,mul_add,add_assoc f,<-add_assoc (a*w),<-add_mul a,add_comm a,lF];congr 2;ac_rfl
def roots(H:br p){Q:Fx p}(k:bu Q):∀(f:E (Fx p))(g:E (Fx p)),Z f<Z g->(∀d∈g,Q∣ev f d)->g.Pairwise (λa b=>¬Q∣a-b)->False
 |_,[],h,_,_=>by simp at h
 |[],d::_,_,h,_=>k.Cu H<|h d ax
 |s::f,n::g,hl,h,hp=>by
  let ⟨ds,u,h2⟩:=ado n f s;let ⟨l,m⟩:=jP.1 hp;have t:=h n ax;have i:Z ds<Z g:=by simp only[iI]at hl;omega
  refine roots H k ds g i (λd hy=>?_) m;have o:=h d uv;rw[h2 d]at o;rcases k.oE H (wo o t)with e|e
  .exact absurd (n5 e)<|l d hy
  .exact e
termination_by f=>Z f
decreasing_by simp only[iI];omega
def adp(a:Fx p):∀m,ev (bl m 0) a=pk a m
 |0=>rfl
 |m+1=>by rw[yS,ev,adp a m,zero_add,pk,mul_comm]
def ao4 m(a:Fx p):ev (0:: -1::bl m 0) a=pk a (m+2)-a:=by rw[ev,ev,adp,zero_add,mul_add,mul_neg,mul_one,pk,pk,sub_def,add_comm];congr 1;ac_rfl
def nP(p:V):V->V->E Y
 |0,_=>[]
 |n+1,k=>((k%p:V):Y)::nP p n (k/p)
def adq(p:V):∀n k,Z (nP p n k)=n
 |0,_=>rfl
 |n+1,k=>by rw[nP,iI,adq p n]
def LO{p:V}(a:0<p):∀n k l,k<p^n->l<p^n->(∀i,I (nP p n k) i 0%(p:Y)=I (nP p n l) i 0%(p:Y))->k=l
 |0,k,l,h,b,_=>by rw[oC]at h b;omega
 |n+1,k,l,h,b,d=>by
  have f:=d 0;simp only[nP,List.getD_cons_zero]at f;have g:k%p=l%p:=by have:=fN k a;have:=fN l a;rw[gX G G,gX G G]at f;omega
  have m:=LO a n (k/p) (l/p) (yT<|by rw[hJ,<-fQ];exact h) (yT<|by rw[hJ,<-fQ];exact b) (λi=>by simpa only[nP,To]using d (i+1));rw[<-ru k p,<-ru l p,g,m]
def adr(H:br p){Q:Fx p}{i:V}(h:Q∣pk X (p^i)-X):∀l:E Y,Q∣pk (fx l) (p^i)-fx l
 |[]=>by rw[kz,adi<|km CC,sub_self];exact dvd_zero Q
 |a::l=>by rw[Js,Oq H,UR H,uT];exact N3 (n6 Q _)<|oD h<|adr H h l
def ads(H:br p){Q:Fx p}(n:bu Q){i}(o:0<i)(L:i+1<sz Q):¬Q∣pk X (p^i)-X:=λh=>by
 have s:=H.hp.1;have d:0<p:=G;have t:2<=p^i:=b6 s (by rw[<-Nat.pow_one p,<-Cj,iG];exact eZ d o);have u:p^i<p^(i+1):=US G G;obtain⟨m,f⟩:∃m,p^i=m+2:=⟨p^i-2,G⟩;refine roots H n (0:: -1::bl m 0) ((cw<|p^i+1).map λk=>fx<|nP p (i+1) k) (by simp[f]) (λy v=>?_) ?_
 .rw[ao4,<-f];obtain⟨k,_,rfl⟩:=kF.1 v;exact adr H h _
 .refine FQ.2<|Ot ?_ Ku;intro a b g l w x;have g:=pO.1 g;have l:=pO.1 l;have B:=s8 H x (by have P:=FI H.pos (fx (nP p (i+1) a):Fx p)<|fx<|nP p (i+1) b;have C:=N7 H.pos<|nP p (i+1) a;have K:=N7 H.pos<|nP p (i+1) b;rw[adq]at C K;omega);have:=LO d (i+1) a b G G<|λj=>adn (Cq B) j;omega
end Fx
namespace Fx
variable{p:V}
def qR(a:Fx p):Prop:=∀Q,bu Q->¬Q*Q∣a
def qR.of_dvd{a b:Fx p}(h:qR a)(k:b∣a):qR b:=λQ d f=>h Q d<|dvd_trans f k
def x5{a B C b:Fx p}(h:a∣B)(k:C∣b):a*C∣B*b:=by obtain⟨w,rfl⟩:=h;obtain⟨v,rfl⟩:=k;exact⟨w*v,fq⟩
def wz(H:br p){a}(h:a%(p:Y)≠0):sz (K a:Fx p)=1:=by let ⟨d,b⟩:=ph H h;exact x4 H b
end Fx
def qT(a:PS):PS:=λi=>((i:Y)+1)*a (i+1)
def ao5{p}{a B}(h:Cg p a B):Cg p (qT a) (qT B):=Cg.of λi=>by show((i:Y)+1)*a (i+1)%p=((i:Y)+1)*B (i+1)%p;rw[qG,h.at,<-qG]
def yc{p}{a}(h:bp p a):bp p (qT a):=by let ⟨n,h⟩:=h;exact⟨n,λi b=>NP<|h (i+1) G⟩
def mP(p:V)(a:E Y)(k:V):E Y:=(cw k).map λj=>I a (j*p) 0
def CE(p:V)(a:E Y):PS:=λi=>if i%p=0 then I a (i/p) 0 else 0
namespace Fx
variable{p:V}
def bA(a:Fx p):Fx p:=ao0 a (λa=>mk (qT a.1)<|yc a.2)<|λ_ _ h=>mk_eq.2<|ao5 h
def Ja(x a:Fx p):bA (x+a)=bA x+bA a:=by obtain⟨A,h,rfl⟩:=ex x;obtain⟨B,k,rfl⟩:=ex a;exact mk_congr (PS.ext λi=>by show((i:Y)+1)*(A (i+1)+B (i+1))=_;rw[oA];rfl) _ _
def FM a:bA (K a:Fx p)=0:=mk_congr (PS.ext λi=>by show((i:Y)+1)*PS.K a (i+1)=0;rw[PS.K,y G,gY]) _ _
def UC:bA (0:Fx p)=0:=by have h:=FM (p:=p) 0;rwa[nj]at h
def Jb a(x:Fx p):bA (K a*x)=K a*bA x:=by obtain⟨A,h,rfl⟩:=ex x;exact mk_congr (PS.ext λi=>by show((i:Y)+1)*(PS.K a*A) (i+1)=(PS.K a*qT A) i;rw[PS.fp,PS.fp,qT,Int.mul_left_comm]) (yc<|(bp.K p a).mul h)<|(bp.K p a).mul<|yc h
def Jc(x:Fx p):bA (X*x)=x+X*bA x:=by
 obtain⟨A,h,rfl⟩:=ex x;exact mk_congr (PS.ext λi=>by
  show((i:Y)+1)*(PS.X 1*A) (i+1)=A i+(PS.X 1*qT A) i;rw[PS.mL,PS.mL,q G,eE];cases i with
  |zero=>simp
  |succ i=>
   rw[q G,eE,qT,nU,kX,wc];rfl) (yc<|(z8 1).mul h) (h.add<|(z8 1).mul<|yc h)
def Jd(B:Fx p):∀a:E Y,bA (fx a*B)=bA (fx a)*B+fx a*bA B
 |[]=>by rw[kz,zero_mul,UC,zero_mul,zero_mul,zero_add]
 |d::a=>by have b:=Jd B a;rw[Js,add_mul,Ja,Jb,mul_assoc,Jc,b,Ja,FM,zero_add,Jc];simp only[add_mul,mul_add];ac_rfl
def wC(H:br p)(b B:Fx p):bA (b*B)=bA b*B+b*bA B:=by obtain⟨a,_,rfl⟩:=jq H.pos b;exact Jd B a
def Je(H:br p)(Q:Fx p):∀a,pk Q a∣bA (pk Q<|a+1)
 |0=>⟨bA<|pk Q 1,(mul_one _).symm⟩
 |a+1=>by show pk Q a*Q∣bA (pk Q (a+1)*Q);rw[wC H];exact dvd_add (x5 (Je H Q a)<|dvd_refl Q)<|dvd_mul_right _ _
def N8(H:br p)(b:Fx p):sz (bA b)<=sz b-1:=by obtain⟨a,d,rfl⟩:=jq H.pos b;rw[cX d];exact z9 H.pos (yc<|bp.ps p a)<|λi f=>NP<|kY (p:Y) a (i+1) G
def mult(H:br p){Q:Fx p}(b:bu Q):∀(n:V)(a:Fx p),sz a<n->a≠0->∃e h,a=pk Q e*h/\¬Q∣h
 |0,_,h,_=>by omega
 |n+1,a,h,i=>by
  by_cases d:Q∣a
  .obtain⟨w,rfl⟩:=d;have f:w≠0:=λe=>i I'
   have l:=ef H f<|b.ne H;have m:=b.1;obtain⟨e,g,rfl,k⟩:=mult H b n w G f;exact⟨e+1,g,by rw[pk];ac_rfl,k⟩
  .exact⟨0,a,(one_mul a).symm,d⟩
def CF(H:br p){Q:Fx p}(b:Q≠0):∀a,pk Q a≠0
 |0=>qN H
 |a+1=>nZ H (CF H b a) b
def adt(H:br p){a D W U V:Fx p}(k:a≠0)(d:a=W*D)(l:D=U*a+V*bA a):qR W:=by
 intro Q f g;let ⟨e,h,b,i⟩:=mult H f _ a (dJ _) k;cases e with
 |zero=>
  refine i ?_
  have b:a=1*h:=b
  rw[one_mul]at b
  rw[<-b,d]
  exact ma (dvd_trans (dvd_mul_left Q Q) g) D
 |succ e=>
  have m:pk Q e∣a:=by rw[b,pk];exact ma (dvd_mul_right _ _) h
  have n:pk Q e∣bA a:=by rw[b,wC H];exact dvd_add (ma (Je H Q e) h)<|ma (by rw[pk];exact dvd_mul_right _ _)<|bA h
  have o:pk Q e∣D:=by rw[l];exact dvd_add (dQ m U)<|dQ n V
  have s:Q*Q*pk Q e∣a:=by rw[d];exact x5 g o
  let ⟨v,hv⟩:=s
  refine i ⟨v,?_⟩
  refine zY H (CF H (f.ne H)<|e+1) ?_
  rw[mul_comm h,<-b,hv,pk];ac_rfl
def adu:∀n,pk (X:Fx p) n=mk (PS.X n) (z8 n)
 |0=>rfl
 |n+1=>by rw[pk,adu n];exact mk_congr (PS.Fq n 1).symm ((z8 n).mul<|z8 1)<|z8<|n+1
def adv(b:0<p) a:bp p (CE p a):=⟨Z a*p,λi d=>by
 unfold CE;split
 .rw[fh a ((Nat.le_div_iff_mul_le b).2 d),gZ]
 .exact gZ _⟩
def adw(H:br p)(b:0<p):∀a:E Y,pk (fx a) p=mk (CE p a) (adv b a)
 |[]=>by rw[kz,adi b];exact mk_congr (PS.ext λi=>by unfold CE;split<;>rfl) (bp.zero p) _
 |f::a=>by
  rw[Js,IT H,Fw H,uT,adw H b a,adu];refine mk_congr (PS.ext λi=>?_) ((bp.K p f).add<|(z8 p).mul<|adv b a) _;rw[PS.eo,PS.mL];by_cases h:p<=i
  .obtain⟨d,rfl⟩:∃d,i=d+p:=⟨i-p,G⟩;rw[q h,eE,PS.K,y G,Cd];unfold CE;rw[Nat.add_mod_right,Nat.add_div_right _ b];rfl
  .rw[y h,rK,PS.K];unfold CE;rw[oY G,B7 G];rfl
def cV(H:br p){a}(h:bA (fx a:Fx p)=0){k}(o:Z a<=k*p):(fx a:Fx p)=pk (fx<|mP p a k) p:=by
 have d:0<p:=CC;have f:=mk_eq.1 (h:mk (qT<|ps a) (yc<|bp.ps p a)=mk 0 (bp.zero p));rw[adw H d];refine mk_eq.2<|Cg.of λi=>?_;unfold CE;by_cases e:i%p=0
 .rw[q e];congr 1;have g:i/p*p=i:=by have:=ru i p;rw[hJ];omega
  unfold mP;by_cases l:i/p<k
  .rw[aN,iN,jV l];show _=I a (i/p*p) 0;rw[g];rfl
  .rw[fh (List.map _ _) bX,cG,fh a];have:k*p<=i/p*p:=et p G;omega
 .rw[y e,gZ];cases i with
  |zero=>rw[Nat.zero_mod]at e;exact absurd J e
  |succ i=>
   have b:=f.at i
   rw[PS.l3,gZ]at b
   refine fc λm=>?_
   refine H.hp.nZ (a:=(i:Y)+1) (λn=>e ?_) m b
   have:((i+1:V):Y)%(p:Y)=0:=by rw[xM];exact n
   omega
structure Mon(p:V)(a:E Y):Prop where
 c:bx p a
 ne:a≠[]
 one:a.getD (a.length-1) 0=1
def Mon.pos{a}(h:Mon p a):1<=Z a:=cR.2 h.ne
def Mon.kA(H:br p){a}(h:Mon p a):(fx a:Fx p)≠0:=λe=>by rw[<-kz]at e;exact h.ne<|uX h.c (rU H.pos) e
def UU(H:br p){a b}(k:Mon p a)(g:Mon p b)(x:Z b<=Z a):Mon p (aO a b p).1:=by
 let ⟨d1,d2,d3,d4,d5,d6⟩:=l6 H.hp H.le k.c.1 g.c g.ne;have B:=g.pos;obtain⟨n,l⟩:∃n,Z b=n+1:=⟨Z b-1,G⟩;obtain⟨m,v⟩:∃m,Z a=m+n+1:=⟨Z a-1-n,G⟩;have h:(aO a b p).1.length=m+1:=G;have o:=kY (p:Y) (aO a b p).1;have s:=kY (p:Y) b;rw[h]at o;rw[l]at s;have i:=d1.at<|m+n;have d:=k.one;have f:=g.one;rw[v,eE]at d;rw[l,eE]at f;have w:(ps (aO a b p).2) (m+n)=0:=by rw[cG];exact fh _ G
 rw[PS.eo,w,rK,o.top s,cG,cG,cG,d,f,ni]at i;have t:=d2 m;rw[H.one,gX t.1 t.2]at i;have u:(aO a b p).1.getD ((aO a b p).1.length-1) 0=1:=by rw[h,eE];exact i.symm
 refine⟨⟨d2,.inr<|by rw[u];decide⟩,λe=>by rw[e]at h;simp at h,u⟩
def Ou(H:br p){a b}(f:bx p a)(g:bx p b)(d:b≠[]):(aO a b p).2=[]↔(fx b:Fx p)∣fx a:=by
 let ⟨d1,d2,d3,d4,d5,d6⟩:=l6 H.hp H.le f.1 g d;have e:(fx a:Fx p)=fx (aO a b p).1*fx b+fx (aO a b p).2:=mk_eq.2 d1;have k:=cR.2 d;constructor
 .intro h;rw[e,h,kz,add_zero];exact dvd_mul_left _ _
 .intro h;rw[e]at h;have i:=s8 H (wo h<|dvd_mul_left _ _) (by rw[cX (d5 f),cX g];omega);rw[<-kz]at i;exact uX (d5 f) (rU H.pos) i
def CG(H:br p){a b}(f:bx p a)(g:bx p b)(d:b≠[])(h:(fx b:Fx p)∣fx a):(fx a:Fx p)=fx (aO a b p).1*fx b:=by let ⟨d1,d2,d3,d4,d5,d6⟩:=l6 H.hp H.le f.1 g d;have e:(fx a:Fx p)=fx (aO a b p).1*fx b+fx (aO a b p).2:=mk_eq.2 d1;rwa[(Ou H f g d).2 h,kz,add_zero]at e
def Ov(H:br p){a b}(f:bx p a)(g:bx p b)(d:b≠[]):(fx b:Fx p)∣fx (aO a b p).2-fx a:=by let ⟨d1,_⟩:=l6 H.hp H.le f.1 g d;have e:(fx a:Fx p)=fx (aO a b p).1*fx b+fx (aO a b p).2:=mk_eq.2 d1;refine n5 ?_;rw[e,xZ];exact dvd_mul_left _ _
def adx(H:br p):∀(k:V)(f g:E Y),bx p f->bx p g->Z g<k->(fx (pe p k f g):Fx p)∣fx f/\(fx (pe p k f g):Fx p)∣fx g/\∃b a,(fx (pe p k f g):Fx p)=b*fx f+a*fx g
 |0,_,_,_,_,h=>by omega
 |k+1,f,g,i,hg,h=>by
  rw[pe];split
  .rename_i d;subst d;exact⟨dvd_refl _,by rw[kz];exact dvd_zero _,1,0,by rw[one_mul,zero_mul,add_zero]⟩
  .rename_i d;let ⟨d1,d2,d3,d4,d5,d6⟩:=l6 H.hp H.le i.1 hg d;have m:=cR.2 d;have l:(fx f:Fx p)=fx (aO f g p).1*fx g+fx (aO f g p).2:=mk_eq.2 d1;let ⟨i1,i2,b,a,i3⟩:=adx H k g (aO f g p).2 hg (d5 i) G;refine⟨by rw[l];exact dvd_add (dQ i1 _) i2,i1,a,b-a*fx (aO f g p).1,?_⟩;rw[i3,l,mul_add,sub_mul];have:a*(fx (aO f g p).1*fx g)+a*fx (aO f g p).2+(b*fx g-a*fx (aO f g p).1*fx g)=(b*fx g-a*fx (aO f g p).1*fx g+a*fx (aO f g p).1*fx g)+a*fx (aO f g p).2:=fq;rw[this,lF]
def Ow(H:br p){a}(f:bx p a)(d:a≠[]):Mon p (lD p a)/\Z (lD p a)=Z a/\(fx (lD p a):Fx p)∣fx a/\(∃g,(fx (lD p a):Fx p)=K g*fx a)/\(fx a:Fx p)=K (I a (Z a-1) 0)*fx (lD p a):=by
 let ⟨m1,b,h,i,k⟩:=Us H.hp H.le f d;have l:=cR.2 d;have e:(fx a:Fx p)=K (I a (Z a-1) 0)*fx (lD p a):=by rw[mul_comm];exact mk_eq.2 k
 refine⟨⟨m1,λe=>by rw[e]at b;simp at b;omega,by rw[b];exact h⟩,b,⟨_,e⟩,⟨((jc (af<|I a (Z a-1) 0) (af ((p:V):Y)):V):Y),?_⟩,e⟩;rw[mul_comm];exact mk_eq.2 i
def Aa(H:br p){f g}(a:bx p f)(k:bx p g)(b:f≠[]):Mon p (gk p f g)/\(fx (gk p f g):Fx p)∣fx f/\(fx (gk p f g):Fx p)∣fx g/\∃d h,(fx (gk p f g):Fx p)=d*fx f+h*fx g:=by
 let ⟨i,h2,d,h,m⟩:=adx H (Z g+1) f g a k<|dJ _;let ⟨n,_,_⟩:=Ur H.hp H.le (Z g+1) f g a k<|dJ _;have o:pe p (Z g+1) f g≠[]:=λe=>by rw[e,kz]at i;let ⟨w,hw⟩:=i;rw[mul_zero,<-kz]at hw;exact b<|uX a (rU H.pos) hw
 let ⟨m1,t,l,⟨c,s⟩,_⟩:=Ow H n o;exact⟨m1,dvd_trans l i,dvd_trans l h2,K c*d,K c*h,by rw[gk,s,m,mul_add,mul_assoc,mul_assoc]⟩
end Fx
def ao.a1{P}{f}{x d}{xs}{a}(h:ao P f (d::xs) a)(b:bg x d):ao P f (x::xs) a:=
 ⟨h.call,h.iy,λH W vs g i=>h.spec H W vs g<|by obtain⟨v,a,rfl,k,l⟩:=i;exact⟨v,a,J,b.1 _ _ k,l⟩⟩
def yd(a:E Y)(m:Y)(b:E Y):E Y:=(cw<|max (Z a)<|Z b).map λi=>I a i 0+m*I b i 0
def ao6(f:V->Y) i:(cw<|i+1).map f=(cw i).map f++[f i]:=by rw[yB,fF];rfl
def Jt a m(b:E Y) u(t:u<=100000)(v:Z a<=1000)(w:Z b<=1000)(o:∀i,aG u (I a i 0))(n:aG u m)(p:∀i,0<=I b i 0/\I b i 0<4294967296):ao c 260 [S .z a,aZ m,S ar b] (S .z<|aM<|yd a m b):=by
 refine aL Tryz.func260 ?_;generalize hM:max (Z a) (Z b)=M;have s:M<=1000:=G;have d:yd a m b=(cw M).map λi=>I a i 0+m*I b i 0:=by rw[yd,hM]
 rw[d];refine e J<|R<|gP .z [] J J (z J<|j<|e J ?_);refine az<|bq (α:=V) (λi=>⟨[(0,S .z a),(2,S ar b),(4,.c<|.P 0 0),(7,.c<|.X 1000000),(8,O i)],[(0,.box 42 0<|av .z m),(1000000,.vec 42 .z<|(cw i).map λi=>I a i 0+m*I b i 0)],3,[]⟩) (λi=>i<=M) (λi=>M-i) 0 (bf _) (wk (bM J) ⟨bE J J,bR J,A⟩) ?_;intro i x;have B:Z ((cw i).map λi=>I a i 0+m*I b i 0)=i:=ax;by_cases k:i<M
 .refine nX ⟨[(0,S .z a),(2,S ar b),(4,.c<|.P 0 0),(7,.c<|.X 1000000),(8,O i)],[(0,.box 42 0<|av .z m),(1000000,.vec 42 .z<|(cw i).map λi=>I a i 0+m*I b i 0)],4,[]⟩ ?_ (λf=>R<|rg 14 J J (λh=>z J<|F J (λ_=>dc<|fJ f aV)<|λh2=>qJ)<|λh=>z J<|F J (λ_=>dc<|fJ f aV)<|λh2=>?_)
  .have h2:=p i;have g:aG 1 (I b i 0):= .one G;refine j<|az<|cK ?_;refine rc J J (Iw a i)<|rc J J (IU b i)<|rc J J (jn (I b i 0) G G) (hp:=aF)<|rc J J (kV m (I b i 0) (n.sm G)<|g.sm G)<|rc J J (xK (I a i 0) (m*I b i 0) ((o i).sm G)<|(n.mul g).sm G) ?_;refine rl .z [I a i 0+m*I b i 0] J J (ra J J J J J J J J J ?_ ?_<|z J ?_)
   .show(_+1+(_+1)/4+192)*32<=_;omega
   .show(_+1)*2<=_;omega
   refine bL<|rt J<|a4 (i+1) k xJ<|Wk.trans (wk (st':=⟨[(0,S .z a),(2,S ar b),(4,.c<|.P 0 0),(7,.c<|.X 4013000),(8,O ((i+1:V):Y))],[(0,.box 42 0<|av .z m),(4013000,.vec 42 .z<|(cw<|i+1).map λi=>I a i 0+m*I b i 0)],8,[]⟩) (bM J) ⟨bR J,bE J ?_,A⟩)<|Wk.trans (gW 1000000 4013000 J J J) aV;exact bh (aD.vec 42 .z) (ao6 _ i).symm
  .exfalso;have h:¬(i:Y)<(Z a:Y):=bc h;have h2:¬(i:Y)<(Z b:Y):=bc h2;omega
 .have l:i=M:=by omega
  subst l;refine j<|R<|rg 14 J J (λh=>?_)<|λh=>?_
  .exfalso;have h:(i:Y)<(Z a:Y):=aW h;omega
  .refine z J (F J (λh2=>?_)<|λh2=>?_)
   .exfalso;have h2:(i:Y)<(Z b:Y):=aW h2;omega
   .exact bt<|aK<|da 1000000 J J J<|bH J J (M9 _) J<|c7 J
def ao7 m b:yd [] m b=b.map (m*·):=by refine tQ (by simp[yd])<|λi d h2=>?_;have a:i<Z b:=p';simp only[yd,Bd,Lg];rw[aN (l:=b),cO a];simp
def ady(b:E Y)(a:Z b<=1000)(d:∀i,0<=I b i 0/\I b i 0<4294967296):ao c 259 [S ar b] (S .z<|aM b):=by refine aL Tryz.func259 ?_;have h:=Jt [] 1 b 1 D ax a (λi=>aG.zero 1) (.one D) d;rw[ao7,show(λx:Y=>1*x)=id from funext λx=>kX x,List.map_id]at h;exact e J<|R<|rc J J (jn 1 D D)<|rc J J (h.a1<|bg.nil .z)<|z J<|c7 J
def UW(p k:V)(b:p<4294967296)(d:k<=100000):ao c 177 [cU p,O k] (aZ<|(p:Y)^k):=by
 refine aL Tryz.func177 ?_;have a:aG 1 (p:Y):= .one G;refine e J<|bH J J (jn 1 D D) J<|j<|e J ?_;refine az<|bq (α:=V) (λi=>⟨[(0,cU p),(1,O k),(4,.c<|.P 0 0),(5,.c<|.P 1001000 0),(6,O i)],[(0,.box 42 0 [.B ah,.V<|.slice none 0 0]),(1001000,.box 42 0<|av .z<|(p:Y)^i)],3,[]⟩) (λi=>i<=k) (λi=>k-i) 0 (bf _) (wk (bM J) ⟨bE J J,bE J ?_,A⟩) ?_
 .rw[o8];rfl
 intro i f;refine j<|e J<|F J (λh=>?_)<|λh=>?_
 .have h:i<k:=by have h:(i:Y)<(k:Y):=aW h;omega
  refine aE<|j<|az<|cK ?_;refine rc J J (jn p G G) (hp:=aF)<|rc J J (kV ((p:Y)^i) p ((a.pow i).sm G)<|a.sm G)<|z J ?_;refine bL<|rt J<|a4 (i+1) h Ox<|wk (bM J) ⟨bE J J,bE J ?_,A⟩;rw[fH];rfl
 .have h:i=k:=by have h:¬(i:Y)<(k:Y):=bc h;omega
  subst h;exact bt<|aK<|e J<|bY J J
def dB(a m:Y):Y:=if a%m+a%m>m then a%m-m else a%m
def UX{n}{a m}(b:0<m)(h:aG n m):aG n (dB a m):=by have d:=iP a (G:m≠0);have f:=iR a b;unfold dB aG at*;split<;>omega
def adz{a b}:dK a b>0↔a>b:=by
 unfold dK;split
 .omega
 .split<;>omega
def UY a m u(p:u<=100000)(s:Z a<=1000)(g:0<m)(o:∀i,aG u (I a i 0))(k:aG u m):ao c 211 [S .z a,aZ m] (S .z<|aM<|a.map (dB · m)):=by
 refine aL Tryz.func211 ?_;refine e J<|R<|gP .z [] J J (z J<|j<|e J ?_);refine az<|bq (α:=V) (λi=>⟨[(0,S .z a),(3,.c<|.P 0 0),(5,.c<|.X 1000000),(6,O i)],[(0,.box 42 0<|av .z m),(1000000,.vec 42 .z<|(M i a).map (dB · m))],3,[]⟩) (λi=>i<=Z a) (λi=>Z a-i) 0 (bf _) (wk (bM J) ⟨bE J J,bR J,A⟩) ?_;intro i v;have w:((M i a).map (dB · m)).length=i:=bX;refine j<|e J<|F J (λh=>?_)<|λh=>?_
 .have h:i<Z a:=by have h:(i:Y)<(Z a:Y):=aW h;omega
  have l:ao c 183 [.a (av .z<|I a (af<|(i:Y)) 0),aZ m] (.t [(ae,av .z<|I a i 0/m),(ae,av .z<|I a i 0%m),(ah,[.I .i64 0])]):=by rw[cr];exact Fh (I a i 0) m G ((o i).sm G)<|k.sm G
  have n:aG u (I a i 0%m):=aG.emod g k;have d:=xK (I a i 0%m) (I a i 0%m) (n.sm G)<|n.sm G;refine aE<|j<|az<|R<|rc J J l (hp:=aF)<|z J ?_;refine nX ⟨[(0,S .z a),(3,.c<|.P 0 0),(5,.c<|.X 1000000),(6,O i),(8,.c<|.P 4011000 0)],[(0,.box 42 0<|av .z m),(1000000,.vec 42 .z<|(M i a).map (dB · m)),(4011000,.box 42 0<|av .z<|dB (I a i 0) m)],7,[]⟩ ?_<|λf=>?_
  .refine cK (rl .z [dB (I a i 0) m] J J (ra J J J J J J J J J ?_ ?_<|z J ?_))
   .show(_+1+(_+1)/4+192)*32<=_;omega
   .show(_+1)*2<=_;omega
   refine bL<|rt J<|a4 (i+1) h qy<|Wk.trans (wk (st':=⟨[(0,S .z a),(3,.c<|.P 0 0),(5,.c<|.X 7003000),(6,O ((i+1:V):Y))],[(0,.box 42 0<|av .z m),(7003000,.vec 42 .z<|(M (i+1) a).map (dB · m))],9,[]⟩) (bM J) ⟨bR J,bE J ?_,A⟩)<|Wk.trans (gW 1000000 7003000 J J J) aV;refine bh (aD.vec 42 .z) ?_;rw[rR a i h,fF];rfl
  .refine R (rc J J d<|rc J J (M4 (I a i 0%m+I a i 0%m) m)<|z J<|F J (λb=>?_)<|λb=>?_)
   .have b:dK (I a i 0%m+I a i 0%m) m>0:=aW b;rw[adz]at b;refine cK<|rc J J (T2 (I a i 0%m) m (n.sm G)<|k.sm G)<|z J<|fJ f<|wk (bM J) ⟨bE J J,bR J,bE J ?_,A⟩;rw[dB,q b];rfl
   .have b:¬dK (I a i 0%m+I a i 0%m) m>0:=bc b;rw[adz]at b;refine dc<|fJ f<|wk (bM J) ⟨bE J J,bR J,bE J ?_,A⟩;rw[dB,y b];rfl
 .have h:i=Z a:=by have h:¬(i:Y)<(Z a:Y):=bc h;omega
  subst h;rw[gQ];exact bt<|aK<|da 1000000 J J J<|bH J J (M9 _) J<|c7 J
def ao8{a b}(d:cj a=cj b)(f:er a=er b):a=b:=by have g:val (r<|aA a)=val (r<|aA b):=bh val f;rw[eJ,eJ]at g;have h:=zz a;have i:=zz b;rw[<-h,<-i,d,(G:aA a=aA b)]
def adA{x a:Bool}:(x !=a)=ae↔x≠a:=by cases x<;>cases a<;>decide
def Ab(a b:E Y)(i:V):V->E Y->E Y
 |0,f=>f
 |d+1,f=>(Ab a b i d f).set (i+d)<|I (Ab a b i d f) (i+d) 0+I a i 0*I b d 0
def ye(a b:E Y):V->E Y
 |0=>bl (Z a+Z b-1) 0
 |i+1=>Ab a b i (Z b)<|ye a b i
def tf(a b:E Y)(m:Y):E Y:=(ye a b<|Z a).map (·%m)
def UZ(a b:E Y)(i:V)(d:E Y):∀f,Z (Ab a b i f d)=Z d
 |0=>rfl
 |f+1=>by rw[Ab,nG,UZ a b i d f]
def U0(a b:E Y):∀i,Z (ye a b i)=Z a+Z b-1
 |0=>by simp[ye]
 |i+1=>by rw[ye,UZ,U0 a b i]
def adB(a b:E Y)(i:V)(f:E Y):∀d,i+d<=Z f->ps (Ab a b i d f)=ps f+PS.K (I a i 0)*PS.X i*ps (M d b)
 |0,_=>by rw[Ab,I3,PS.mul_zero,PS.add_zero]
 |d+1,h=>by rw[Ab,I1 _ (by rw[UZ];omega),I2,PS.mul_add,<-PS.add_assoc,adB a b i f d G];congr 1;rw[show∀x g:Y,x+g-x=g by intros;omega];rw[PS.zM,PS.Fq];ac_rfl
def adC(a b:E Y):∀i,i<=Z a->ps (ye a b i)=ps (M i a)*ps b
 |0,_=>by rw[ye,NX,I3,PS.zero_mul]
 |i+1,h=>by have d:=adB a b i (ye a b i) (Z b) (by rw[U0];omega);rw[gQ]at d;rw[ye,d,adC a b i G,I2,PS.add_mul]
def U1 a b m:Cg m (ps<|tf a b m) (ps a*ps b):=by have h:=adC a b (Z a)<|aT _;rw[gQ]at h;rw[<-h];exact acp m _
def U2 a b m:Z (tf a b m)=Z a+Z b-1:=by rw[tf,cT,U0]
section
variable{P:Program}{tt:TT}
def ao9(b7:cq P tt=ae){ops}{i}{o}(ho:ops[i]? =ad o)(hg:o.guard=none)(hd:o.dst=none){n}{t:TypeId}{x p}(bO:o.op= .store t x p)
 {B}{H f u}{aU}{bz:V} {cs:E C} {E2:TypeId} {T:ET} {xs:E T.den} (hx:B.ev x=ad (.c<|.P H f)) (hy:B.ev p=ad (.c<|.X u)) (hl:U H B.mem=ad (.box aU bz cs)) (hj:U u B.mem=ad (.vec E2 T xs)) {ag:Bool} (DC:ou tt t=ad (1,ag)) (h1:f<Z cs) (new:V):
  ig P n ops i (cH B x++cH B p++fM B [H,u]) [(.m H,ad<|.b<|.box aU bz<|cF cs [.X u] f)] new:=by
 intro F jZ Q Y σ g W a K D d v hK
 have tW:=dq d B x _ hx<|λG cc=>v G dT
 have I:=dq d B p _ hy<|λG cc=>v G dT
 have hmy:=q8 d B p _ hy<|λG cc=>v G dT
 have s:σ (.m H)=ad (.b<|.box aU bz cs):=v (.m H,.b<|.box aU bz cs) pU
 have M:σ (.m u)=ad (.b<|.vec E2 T xs):=v (.m u,.b<|.vec E2 T xs) (by simp[fM,hj])
 let ⟨b,vs,rest,r,hh,hr,hN,hz,uc⟩:=d.cA H _ s
 have N:=d.cA u _ M
 let ⟨b',w,hv⟩:=tW
 rw[r]at w
 simp only[aq]at w
 subst w
 have O:a.eval p=g.γ u:=I
 have R:nE (a.eval p)=ae:=by rw[O];rcases N with⟨e,_⟩|⟨_,_,_,e,_⟩<;>rw[e]<;>rfl
 have L:(a.eval p).cells=[a.eval p].toArray:=by rw[O];rcases N with⟨e,_⟩|⟨_,_,_,e,_⟩<;>rw[e]<;>rfl
 have Gx:aY g [.X u] [a.eval p]:=⟨_,_,J,I,J⟩
 let ⟨_,⟨ti,nF,Xz⟩,_⟩:=GL b7 DC
 have aiu:=hr.length
 have S:(Instr.storeAt t (a.eval x)<|a.eval p).run P W= .ok () (iH W b (cF (vs++rest) [a.eval p] f) aU):=by rw[hv];simp only[Instr.storeAt,Instr.sureAddr,storeVar,Sem.run_bind,Sem.run_pure,Result.andThen,run_sizeOf nF,L];have:¬([a.eval p].toArray.size≠ti.size):=bX;simp only[this,bQ];have:=yH (P:=P) b [a.eval p] W (vs++rest) f 0 hh bX (by simpa using R);simp only[jv]at this;simpa using this
 unfold wpOp
 simp only[ho,Region.wanted,hg,cd]
 refine .inl ?_
 unfold Oper.wp
 have hex:(execOp a.eval o).run P W= .ok .skip (iH W b (cF (vs++rest) [a.eval p] f) aU):=by rw[execOp,bO];simp[S,Sem.run,pure]
 rw[hex]
 simp only[Oper.upon,hd,Act.put]
 have hb:b<W.heap.size:=(fb.1 hh).1
 refine hK g _ a<|d.step (chg:=λu=>u=H) (g':=g) ⟨⟨cE.refl _,λ_ _=>rfl⟩,λ_ _ _=>rfl,yI d.sub hz,yJ,?_,J,J,J⟩ _ new D J d.defers (λ_ _=>rfl) ?_ ?_ ?_ ?_ ?_
 .intro k hk fe;have:b≠k:=λe=>fe H J (by rw[r,e])
  exact w7 this
 .intro u hj;subst hj;exact⟨xb,_,s⟩
 .intro t' v' ht;simp[aC]at ht
 .intro q bk A;simp only[aC]at A;split at A
  .rename_i e;simp only[Key.m.injEq]at e;subst e;simp only[aq,Info.b.injEq]at A;subst A;have rh:cF (vs++rest) [a.eval p] f=cF vs [a.eval p] f++rest:=KO vs rest _ f bX;exact⟨⟨b,cF vs [a.eval p] f,rest,r,KP,hr.cF Gx f,hN,hz,λh0=>by let ⟨c,e1,e2⟩:=uc h0;refine⟨c,e1,?_⟩;rw[<-rh,w8 _ _ _ bX];exact e2⟩,.inl ⟨d.dn _ _ s,_,s⟩⟩
  .simp at A
 .intro k z l;simp only[aC]at l;split at l
  .simp only[aq]at l;subst l;intro q A;rcases Dx _ _ _ q A with h|h
   .exact .inl<|d.ak _ _ s q h
   .exact .inl (hmy q<|by simpa[cp,AV.ak]using h)
  .simp at l
 .intro q z l;simp only[aC]at l;split at l
  .rename_i e;simp only[Key.m.injEq]at e;subst e;exact .inl<|d.dn _ _ s
  .simp at l
def apa{a:Type} vs(u:a) off(h:off<Z vs):cF vs [u] off=vs.set off u:=by unfold cF;rw[List.set_eq_take_append_cons_drop,q h,lP];rfl
def apb{n}{s}{a}{L i}{t:TypeId}{x o}{ty}{pos}{u}{W}{b}{mem}{d}{f}{ks}{Q:St->Prop}(v:cq P tt=ae)
 {g l p}{aU}{bz}{w}{E2}{T}{xs}(hx:St.ev ⟨b,mem,d,f⟩ x=ad (.c<|.P g l)) (hy:St.ev ⟨b,mem,d,f⟩ o=ad (.c<|.X p)) (hl:U g mem=ad (.box aU bz w)) (hj:U p mem=ad (.vec E2 T xs)) {ag}(B:ou tt t=ad (1,ag)) (h1:l<Z w)
  (h:RG P n s a L (i+1) W ⟨b,(g,.box aU bz<|w.set l<|.X p)::mem,d,f⟩ (g8 a ks (bJ [x,o]++cY [g,p],[.m g])) Q):
  RG P n s a L i (⟨none,.store t x o,ty,pos,u,none⟩::W) ⟨b,mem,d,f⟩ ks Q:=by
 refine nJ (λK=>⟨_,_,ao9 v K J J J hx hy hl hj B h1 _,?_,?_,?_,λk hk=>jG⟩)<|nK h
 .intro C H;rcases be.1 H with h|h
  .rcases be.1 h with h|h
   .exact dX _ x C h
   .exact dX _ o C h
  .exact lp _ [g,p] C h
 .rw[apa _ _ _ h1];exact KU ⟨b,mem,d,f⟩ g _
 .intro k hk;simp only[dw,fF,be]at hk;rcases hk with(h|h)|h
  .exact eH _<|eI ⟨b,mem,d,f⟩ [x,o] k tL
  .exact eH _<|eI ⟨b,mem,d,f⟩ [x,o] k vE
  .exact gI _<|kf ⟨b,mem,d,f⟩ [g,p] k h
end
def qU(a:V->V):C->C
 | .P id o=> .P (a id) o
 | .X id=> .X<|a id
 | .Y id n i o=> .Y (a id) n i o
 | .L id o l b=> .L (a id) o l b
 | .W id o l=> .W (a id) o l
 |b=>b
def Ju(b:V->V):AV->AV
 | .c x=> .c<|qU b x
 | .a cs=> .a<|cs.map<|qU b
 | .t d=> .t<|d.map λs=>(s.1,s.2.map<|qU b)
def FR(d:V->V):aD->aD
 | .box g h cs=> .box g h<|cs.map<|qU d
 | .vec g T xs=> .vec g T xs
 | .dI f a b=> .dI f (a.map λs=>(s.1,s.2.map<|qU d))<|b.map λs=>(s.1,s.2.map<|qU d)
 | .fz g cs=> .fz g<|cs.map<|qU d
 | .mp i k xs=> .mp i k<|xs.map λx=>(x.1.map<|qU d,x.2.map<|qU d)
 | .it m n seen=> .it (d m) n seen
def U3{g:Gh}{a:V->V}:∀{b:C}{v:Value},cN g (qU a b) v->cN ⟨g.H,λd=>g.γ<|a d⟩ b v
 | .any,_,h=>h
 | .B _,_,h=>h
 | .I _ _,_,h=>h
 | .V _,_,h=>h
 | .S _ _,_,h=>h
 | .P _ _,_,h=>h
 | .X _,_,h=>h
 | .Y _ _ _ _,_,h=>h
 | .E _ _ _,_,h=>h
 | .M _,_,h=>h
 | .L _ _ _ (ad _),_,h=>h
 | .L _ _ _ none,_,h=>h
 | .W _ _ _,_,h=>h
def CH{g:Gh}{a:V->V}:∀{b:E C}{vs:E Value},aY g (b.map<|qU a) vs->aY ⟨g.H,λd=>g.γ<|a d⟩ b vs
 |[],_,h=>h
 |_::_,_,h=>by let ⟨v,f,i,k,h2⟩:=h;exact⟨v,f,i,U3 k,CH h2⟩
def Oy{g:Gh}{i:V->V}:∀{k:E (Bool×E C)}{vs:E Value},du g (k.map λs=>(s.1,s.2.map<|qU i)) vs->du ⟨g.H,λl=>g.γ<|i l⟩ k vs
 |[],_,h=>h
 | (b,d)::_,_,h=>by
  let ⟨v,m,f,a,h2⟩:=h;refine⟨v,m,f,?_,Oy h2⟩;match b,d,a with
  |true,d,a=>let ⟨vs,f,h⟩:=a;exact⟨vs,f,CH h⟩
  |false,[d],a=>exact U3 a
  |false,[],a=>exact a.elim
  |false,_::_::_,a=>exact a.elim
def adD{g}{b:V->V}{x}{v}(h:a8 g (Ju b x) v):a8 ⟨g.H,λd=>g.γ<|b d⟩ x v:=by
 cases x with
 |c y=>exact U3 h
 |a cs=>let ⟨vs,e,h⟩:=h;exact⟨vs,e,CH h⟩
 |t f=>let ⟨vs,e,h⟩:=h;exact⟨vs,e,Oy h⟩
def adF{g:Gh}{a:V->V}{f i:Bool}:∀{n:V}{xs:E (E C×E C)}{k:E MapEntry},iU g f i n (xs.map λx=>(x.1.map<|qU a,x.2.map<|qU a)) k->iU ⟨g.H,λl=>g.γ<|a l⟩ f i n xs k
 |_,[],_,h=>h
 |_,_::_,_,h=>by let ⟨m,o,p,h2,⟨s,t,b⟩,⟨vs,u,d⟩,v⟩:=h;exact⟨m,o,p,h2,⟨s,t,CH b⟩,⟨vs,u,CH d⟩,adF v⟩
def adG{u:V->Prop}{g}{W}{p:V->V}{o}{b}(h:ic u g W (p o) (FR p b)):ic u ⟨g.H,λo=>g.γ<|p o⟩ W o b:=by
 cases b with
 |box E w cs=>
  let ⟨k,vs,rest,a,d,i,l,s,v⟩:=h
  exact⟨k,vs,rest,a,d,CH i,l,s,v⟩
 |vec E T x=>
  rcases h with⟨a,d⟩|⟨k,t,vs,a,d⟩
  .exact .inl ⟨a,d⟩
  .exact .inr ⟨k,t,vs,a,d⟩
 |dI f first caps=>
  let ⟨us,ws,a,d,i⟩:=h
  exact⟨us,ws,a,Oy d,Oy i⟩
 |fz E cs=>
  let ⟨k,vs,rest,a,d,i,l,s⟩:=h
  exact⟨k,vs,rest,a,d,CH i,l,s⟩
 |mp B C xs=>
  let ⟨k,es,a,d,i,l⟩:=h
  exact⟨k,es,a,by simpa using d,adF i,l⟩
 |it m n seen=>exact h
def Jv(a:V->V)(l:E (V×AV)):E (V×AV)->Prop
 |[]=>True
 | (t,b)::d=>(∃v,U t l=ad v/\bg v (Ju a b))/\Jv a l d
def Jw(a:V->V)(l:E (V×aD)):E (V×aD)->Prop
 |[]=>True
 | (t,b)::d=>(∃v,U (a t) l=ad v/\kK v (FR a b))/\Jw a l d
def Jv.get{b:V->V}{l:E (V×AV)}:∀{m:E (V×AV)},Jv b l m->∀{t a},U t m=ad a->∃v,U t l=ad v/\bg v (Ju b a)
 |[],_,_,_,h=>by simp[U]at h
 | (k,x)::m,hw,t,a,h=>by
  simp only[U]at h;split at h
  .rename_i d;subst d;cases h;exact hw.1
  .exact Jv.get hw.2 h
def Jw.get{a:V->V}{l:E (V×aD)}:∀{m:E (V×aD)},Jw a l m->∀{t b},U t m=ad b->∃v,U (a t) l=ad v/\kK v (FR a b)
 |[],_,_,_,h=>by simp[U]at h
 | (k,x)::m,hw,t,b,h=>by
  simp only[U]at h;split at h
  .rename_i d;subst d;cases h;exact hw.1
  .exact Jw.get hw.2 h
def wH(K:V)(m:E (V×aD)):Prop:=∀t v,U t m=ad v->t<K/\∀a∈v.ak,a<K
def apc(l:V->V){u d}(hs:Jv l u.sl d.sl)(hm:Jw l u.mem d.mem)(h0:l 0=0)(w:∀f i,(U f d.mem).isSome=ae->(U i d.mem).isSome=ae->l f=l i->f=i)
  (L:wH (1000000*d.nx) d.mem) (P:A7 (1000000*d.nx) d.sl=ae:=by rfl) (B:Nat.ble 1 d.nx=ae:=by rfl):Wk u d:=by
 intro F X g W a h
 have B:=cP B
 let q:Gh:=⟨g.H,λf=>g.γ<|l f⟩
 have T:∀t n,d.kn (.s t)=ad (.v n)->(∃v,u.kn (.s t)=ad (.v v)/\bg v (Ju l n))/\∀f∈n.ak,f<1000000*d.nx:=by intro t n e;simp only[St.kn,bS]at e;let ⟨x,hx,he⟩:=e;cases he;let ⟨v,hv,hle⟩:=hs.get hx;exact⟨⟨v,p7,hle⟩,DO P t n hx⟩
 have C:∀f o,d.kn (.m f)=ad (.b o)->(∃b,u.kn (.m<|l f)=ad (.b b)/\kK b (FR l o))/\(f<1000000*d.nx/\∀j∈o.ak,j<1000000*d.nx)/\(U f d.mem).isSome=ae:=by intro t n e;simp only[St.kn,bS]at e;let ⟨x,hx,he⟩:=e;cases he;let ⟨v,hv,hle⟩:=hm.get hx;exact⟨⟨v,p7,hle⟩,L t n hx,by rw[hx];rfl⟩
 refine⟨q,h.size,h.defers,?_,?_,?_,?_,?_,h.sub,h.below,h.le,h.fresh,?_⟩
 .intro t n e;let ⟨⟨v,hv,hle⟩,_⟩:=T t n e;exact adD<|hle.1 _ _<|h.dv t v hv
 .intro f o e;let ⟨⟨b,r,hle⟩,_⟩:=C f o e;exact adG<|hle.1 _ _ _ _<|h.cA (l f) b r
 .intro f i b o k e y z K;let ⟨⟨c,hc,_⟩,_,A⟩:=C f b e;let ⟨⟨D,Q,_⟩,_,h2⟩:=C i o y;exact w f i A h2<|h.inj (l f) (l i) c D k hc Q z K
 .intro k x e f p;cases k with
  |s t=>
   cases x with
   |v n=>exact(T t n e).2 f p
   |b o=>simp only[St.kn,bS]at e;let ⟨_,_,he⟩:=e;cases he
  |m j=>
   cases x with
   |v n=>simp only[St.kn,bS]at e;let ⟨_,_,he⟩:=e;cases he
   |b o=>exact(C j o e).2.1.2 f p
 .intro f x e;cases x with
  |v n=>simp only[St.kn,bS]at e;let ⟨_,_,he⟩:=e;cases he
  |b o=>exact(C f o e).2.1.1
 .intro f p;have E:f=0:=G;subst E;refine⟨?_,?_⟩
  .show 0<1000000*d.nx;omega
  .show g.γ (l 0)=_;rw[h0];exact(h.fv 0 p).2
def wH.of{K}{m}(h:xg K m=ae):wH K m:=DP h
def Oz{d:Type}(t:V):∀(a b:E (V×d)),U t (a++b)=(U t a).or (U t b)
 |[],_=>rfl
 | (k,x)::a,b=>by
  simp only[ln,U];split
  .rfl
  .exact Oz t a b
def OA(m:V)(b:Ks):E Ks->V->Bool
 |[],_=>ae
 |a::l,i=>(mY m i|| !nH a b)&&OA m b l (i+1)
def OB:E V->E Ks->E Ks->Bool
 |m::ms,b::a,done=>OA m b done 0&&OB ms a (done++[b])
 |[],[],_=>ae
 |_,_,_=>ah
def U4(a:E Oper)(b:E Ks):Bool:=DI a 0&&OB (pW a []) b []
def adH(m:V)(b:Ks):∀(l:E Ks)(i:V),OA m b l i=A3 m b l i
 |[],_=>rfl
 |a::l,i=>by rw[OA,A3,adH m b l,Bool.or_comm]
def adI:∀(a:E V)(d done:E Ks),OB a d done=xd a d done
 |[],[],_=>rfl
 |[],_::_,_=>rfl
 |_::_,[],_=>rfl
 |m::a,b::d,done=>by rw[OB,xd,adH,adI a d]
def apd{b}{a}{d}(h:(!b||U4 a d)=ae):(!b||pX a d)=ae:=by
 have:U4 a d=pX a d:=by rw[U4,pX,adI]
 rwa[this]at h
def adJ{a:Type}{k t}{x}{l:E (V×a)}(h:k≠t):U t ((k,x)::l)=U t l:=by simp only[U,y h]
def OC{a b:E Y}(g:Z a=Z b)(h:∀d,d<Z a->I a d 0=I b d 0):a=b:=by refine tQ g<|λd f i=>?_;have:=h d f;rw[aN,aN,cO f,cO i]at this;exact this
def ape a b{m}(d:0<m) k:0<=I (tf a b m) k 0/\I (tf a b m) k 0<m:=by rw[tf,getD_map<|gZ m];exact⟨iP _ G,iR _ d⟩
def U5 a b i:I (lC a b) i 0=if i<Z a+Z b-1 then conv (λi=>I a i 0) (λi=>I b i 0) i else 0:=by
 unfold lC;rw[aN,iN];split
 .rename_i h;rw[jV h];rfl
 .rename_i h;rw[jS bX];rfl
def Jx a b:Z (lC a b)=Z a+Z b-1:=by simp[lC]
def adK a b(d:a≠[])(f:b≠[]):ps (lC a b)=ps a*ps b:=PS.ext λi=>by
 have g:=cR.2 d;have h:=cR.2 f;rw[cG,U5];show _=conv (λi=>I a i 0) (λi=>I b i 0) i
 split
 .rfl
 .symm;refine TB _ _ i (i+1) λj k=>?_
  by_cases e:j<Z a
  .show I a j 0*I b (i-j) 0=0;rw[fh b G,gY]
  .show I a j 0*I b (i-j) 0=0;rw[fh a G,nh]
def apf a b(d:a≠[])(f:b≠[]):I (lC a b) (Z (lC a b)-1) 0=I a (Z a-1) 0*I b (Z b-1) 0:=by have h:=cR.2 d;have k:=cR.2 f;rw[Jx,U5,q G,(G:Z a+Z b-1-1=(Z a-1)+(Z b-1))];exact amS (λi g=>fh a G)<|λi g=>fh b G
def adL a b u v(d:∀i,aG u (I a i 0))(f:∀i,aG v (I b i 0))(g:Z a<=1000)(h:Z b<=1000) i:aG (u+v+1) (I (lC a b) i 0):=by
 rw[U5];split
 .exact acz a b u v d f i (i+1) G
 .exact aG.zero _
def aH(a:E Y):Prop:=a≠[]/\I a (Z a-1) 0=1
def aH.can{a}(h:aH a):can a:= .inr (by rw[h.2];decide)
def aH.trim{a}(h:aH a):aM a=a:=wj h.can
def aH.adM{a b}(d:aH a)(f:aH b):aH (lC a b):=by have h:=cR.2 d.1;have i:=cR.2 f.1;refine⟨λe=>?_,by rw[apf a b d.1 f.1,d.2,f.2];rfl⟩;have g:=Jx a b;rw[e]at g;simp at g;omega
def aH.md{p}(b:1<p){a}(h:aH a):aH (md p a):=by refine⟨λe=>h.1 (gK<|by rw[<-xV p a,e];rfl),?_⟩;rw[xV,IV,h.2];exact gX D b
namespace Rx
def zx(a:E Y):Rx:=lx (a.map λx:Y=>(x:Rat))
def k4 a i:zx a i=((I a i 0:Y):Rat):=by show I (a.map λx:Y=>(x:Rat)) i 0=_;rw[aN,iN,aN];cases a[i]? <;>rfl
def CI a:c9 (zx a):=c9.of λi=>⟨_,k4 a i⟩
def OD a:nu (zx a)=ps a:=PS.ext λi=>by show(zx a i).num=_;rw[k4];rfl
def apg{a}(h:can a):bU (a.map λx:Y=>(x:Rat)):=by
 rcases h with h|h
 .subst h;exact .inl J
 .right;rw[cT];intro e;have b:=k4 a<|Z a-1;rw[show zx a (Z a-1)=0 from e]at b;exact h<|Rat.intCast_eq_zero_iff.1 b.symm
def k5{a}(h:can a):sz (zx a)=Z a:=by rw[zx,fS<|apg h,cT]
def aH.can{a}(h:aH a):can a:= .inr (by rw[h.2];decide)
def n9{a}(h:aH a):Mo (zx a):=by rw[Mo,k5<|aH.can h,k4,h.2];rfl
def aph{a b}(f:can a)(g:can b)(h:zx a=zx b):a=b:=by
 have k:∀i,I a i 0=I b i 0:=λi=>by
  have e:zx a i=zx b i:=by rw[h]
  rw[k4,k4]at e;exact x9.1 e
 refine OC ?_ λj _=>k j
 have d:=k5 f;rw[h,k5 g]at d;exact d.symm
def OE{d}(h:c9 d):∃a,can a/\zx a=d:=by
 obtain⟨a,b,rfl⟩:=jq d;have e:∀i,I (a.map Rat.num) i 0=(I a i 0).num:=λi=>by rw[aN,iN,aN];cases a[i]? <;>rfl
 refine⟨a.map Rat.num,?_,ext λi=>?_⟩
 .rcases b with b|b
  .subst b;exact .inl J
  .right;rw[cT,e];exact λf=>b<|Rat.num_eq_zero.1 f
 .rw[k4,e];exact(h i).symm
def OF{a}(h:can a)(b:Mo (zx a)):aH a:=by have d:=b;rw[Mo,k5 h,k4]at d;refine⟨λe=>?_,x9.1 (d.trans Rat.intCast_one.symm)⟩;subst e;exact b.ne<|show zx []=0 from pj
def OG{a b d}(h:zx a*zx b=zx d):ps a*ps b=ps d:=by rw[<-OD,<-OD,<-Cy (CI a) (CI b),h,OD]
def uY(a:PS){n:V}(h:∀i,n<=i->a i=0):Rx:=⟨λi=>(a i:Rat),n,λi b=>by rw[h i b];rfl⟩
def FT a{n}(h:∀i,n<=i->a i=0):c9 (uY a h):=λ_=>rfl
def Ac a{n}(h:∀i,n<=i->a i=0):nu (uY a h)=a:=rfl
def adN{a B}(b:c9 a)(d:c9 B)(h:nu a=nu B):a=B:=ext λi=>by rw[b.at,d.at,h]
def OH{a B}(b:c9 a)(d:c9 B):c9 (a+B)/\nu (a+B)=nu a+nu B:=by
 have e:∀i,(a+B) i=(((nu a+nu B) i:Y):Rat):=λi=>by rw[eo,b.at,d.at,<-Oe];rfl
 exact⟨c9.of λi=>⟨_,e i⟩,PS.ext λi=>by show((a+B) i).num=_;rw[e];rfl⟩
def U6 a:c9 (bA<|zx a)/\nu (bA<|zx a)=qT (ps a):=by
 have e:∀i,bA (zx a) i=((qT (ps a) i:Y):Rat):=λi=>by rw[qO,k4];show _=((((i:Y)+1)*ps a (i+1):Y):Rat);rw[fT];rfl
 exact⟨c9.of λi=>⟨_,e i⟩,PS.ext λi=>by show(bA (zx a) i).num=_;rw[e];rfl⟩
def api{l}(hn:l.Nodup)(L:∀p∈l,br p)(hb:ya<qQ l){a}{n}(hl:Z a=n+2)(P:aH a)(k:Co (zx a) (bA<|zx a)){B}(h1B:1<=B)(Q:∀i,aA (I a i 0)<=B)(f:(2*((2*n+2)*((n+1)*B)))^(2*n+1)<=ya):
  ∃p∈l,Fx.Co (Fx.fx a:Fx (p:V)) (Fx.bA<|Fx.fx a):=by
 have T:∀i,n+1<i->ps a i=0:=λi b=>fh a G
 have g:∀i,n<i->qT (ps a) i=0:=λi b=>by show _*ps a (i+1)=0;rw[T (i+1) G,gY]
 have m:B<=(n+1)*B:=by have:=et B (G:1<=n+1);omega
 let ⟨u,v,D,u1,v1,e,r,fe⟩:=aoU (B:=(n+1)*B) G T g (λi=>b6 (Q i) m) (λi=>by
  by_cases b:n<i
  .rw[g i b];exact bf _
  .show aA (((i:Y)+1)*ps a (i+1))<=_;rw[rP];exact l0 G<|Q _)
 have y:=n9 P
 have z:sz (zx a)=n+2:=by rw[k5 (aH.can P),hl]
 have o:D≠0:=λE=>by
  subst E;have s:uY u u1*zx a+uY v v1*bA (zx a)=0:=by have W:=(FT u u1).mul<|CI a;have X:=(FT v v1).mul (U6 a).1;refine adN (OH W X).1 (λ_=>rfl) ?_;rw[(OH W X).2,Cy (FT u u1)<|CI a,Cy (FT v v1) (U6 a).1,Ac,Ac,OD,(U6 a).2,e,PS.nj];rfl
  have j:zx a∣uY v v1*bA (zx a):=by refine wo ?_<|dvd_mul_left (zx a)<|uY u u1;rw[s];exact dvd_zero _
  rw[mul_comm]at j;have F:=k.dvd j;have q:uY v v1=0:=s8 F (by have:=n7 (A:=uY v v1) (n:=n+1) (λi b=>by show((v i:Y):Rat)=0;rw[v1 i b];rfl);omega);rw[q,zero_mul,add_zero]at s;have M:uY u u1=0:=fc λN=>nZ N y.ne s
  refine fe J ?_ ?_
  .rw[<-Ac v v1,q];rfl
  .rw[<-Ac u u1,M];rfl
 let ⟨p,h,t⟩:=aoY hn (λp h=>(L p h).hp) hb o<|b6 r f
 refine⟨p,h,?_⟩
 have H:=L p h
 have w:bp p u:=⟨n,λi b=>by rw[u1 i b,gZ]⟩
 have x:bp p v:=⟨n+1,λi b=>by rw[v1 i b,gZ]⟩
 let ⟨d,O⟩:=Fx.ph H (c:=D)<|λR=>t<|Fu R
 refine⟨Fx.K d*Fx.mk u w,Fx.K d*Fx.mk v x,?_⟩
 have C:(Fx.mk u w*Fx.fx a+Fx.mk v x*Fx.bA (Fx.fx a):Fx p)=Fx.K D:=Fx.mk_congr e ((w.mul<|bp.ps p a).add<|x.mul<|yc<|bp.ps p a)<|bp.K p D
 rw[Fx.mul_assoc,Fx.mul_assoc,<-Fx.mul_add,C]
 exact O
end Rx
def OI{a b m}(h:a%m=b%m):dB a m=dB b m:=by unfold dB;rw[h]
def Ad{m}(b:0<m) a:dB a m%m=a%m:=by
 unfold dB;split
 .rw[xX,mM,Int.emod_self,B3,mM]
 .exact mM _ _
def adO{m}(a:1<m):dB 1 m=1:=by unfold dB;rw[gX D a,y G]
def apj m(a:0<m):dB 0 m=0:=by unfold dB;rw[gZ,y G]
def qV a{m}(b:0<m) i:(a.map (dB · m)).getD i 0=dB (I a i 0) m:=getD_map (f:=(dB · m)) (apj m b) a i
def apk{a b}{m}(d:0<m)(f:Z a=Z b)(h:∀i,I a i 0%m=I b i 0%m):a.map (dB · m)=b.map (dB · m):=OC (by rw[cT,cT,f]) λj _=>by rw[qV a d,qV b d];exact OI<|h j
def CJ{a}{m}(b:1<m)(h:aH a):aH (a.map (dB · m)):=by refine⟨λe=>h.1<|List.map_eq_nil_iff.1 e,?_⟩;rw[cT,qV a G,h.2];exact adO b
open Fx
def adP{p}(H:br p){b}{d}(h:bp p b)(g:b d=1)(k:∀i,d<i->b i=0):sz (mk b h)=d+1:=by
 have l:sz (mk b h)<=d+1:=z9 H.pos h λi n=>by rw[k i G,gZ]
 let ⟨a,m,e⟩:=jq H.pos<|mk b h;have f:=(mk_eq.1 (e:mk (ps a) (bp.ps p a)=mk b h)).at d;rw[<-e,cX m]at l⊢;by_cases hl:Z a<=d
 .rw[cG,fh a hl,g,gZ,H.one]at f;cases f
 .omega
def U7{p}{a}{n}(h:∀i,n<=i->a i=0):bp p a:=⟨n,λi b=>by rw[h i b,gZ]⟩
structure MD(d:V)(a:PS):Prop where
 one:a d=1
 z:∀i,d<i->a i=0
def MD.OJ{d}{a}(h:MD d a) p:bp p a:=U7 (n:=d+1) λi b=>h.z i G
def adQ{p:V}(H:br p){a k K l:PS}{d v:V}(o:MD d a)(s:MD d k)(x:MD v K)(u:MD v l)(B:Co (mk a<|o.OJ p) (mk K<|x.OJ p))(c1:Cg p a k)(c2:Cg p K l):∀b,1<=b->Cg ((p:Y)^b) (a*K) (k*l)->Cg ((p:Y)^b) a k/\Cg ((p:Y)^b) K l
 |0,h,_=>absurd h G
 |1,_,_=>by rw[fH,o8,kX];exact⟨c1,c2⟩
 |b+1+1,_,h=>by
  have hp:=H.hp.1;have C:Cg ((p:Y)^(b+1)) (a*K) (k*l):=Cg.of λi=>by have m:=th ((a*K) i) (show((p:Y)^(b+1))∣(p:Y)^(b+1+1)from⟨p,fH _ _⟩);have L:=th ((k*l) i) (show((p:Y)^(b+1))∣(p:Y)^(b+1+1)from⟨p,fH _ _⟩);rw[<-m,h.at,L]
  let ⟨i1,i2⟩:=adQ H o s x u B c1 c2 (b+1) G C;obtain⟨q,eq⟩:∃q,q=(p:Y)^(b+1):=⟨_,J⟩;have c:q≠0:=by rw[eq];exact Int.ne_of_gt<|nT G
  rw[<-eq]at i1 i2;rw[fH,<-eq]at h⊢;let ⟨U,r⟩:=i1.symm;let ⟨f,y⟩:=i2.symm;have zU:∀i,d<=i->U i=0:=λi D=>by
   have m:k i=a i+q*U i:=by rw[r,PS.eo,PS.fp]
   have L:k i=a i:=by
    by_cases v:i=d
    .subst v;rw[o.one,s.one]
    .rw[o.z i G,s.z i G]
   have P:q*U i=0:=G;exact(Int.mul_eq_zero.1 P).resolve_left c
  have zV:∀i,v<=i->f i=0:=λi D=>by
   have m:l i=K i+q*f i:=by rw[y,PS.eo,PS.fp]
   have L:l i=K i:=by
    by_cases E:i=v
    .subst E;rw[x.one,u.one]
    .rw[x.z i G,u.z i G]
   have P:q*f i=0:=G;exact(Int.mul_eq_zero.1 P).resolve_left c
  have Q:bp p U:=U7 zU;have F:bp p f:=U7 zV;have I:(p:Y)∣q:=by rw[eq,fH];exact CK _ _
  have M:Cg p (a*f+U*K) 0:=Cg.Ug λi=>by
   have m:=h.symm.dvd i;have E:k*l=a*K+PS.K q*(a*f+U*K)+PS.K q*(PS.K q*(U*f)):=by rw[r,y];simp only[PS.mul_add,PS.add_mul];ac_rfl
   rw[E,PS.eo,PS.eo,PS.fp,PS.fp,PS.fp]at m;let ⟨w,hw⟩:=m;have L:q*((a*f+U*K) i+q*(U*f) i)=q*(p*w):=by rw[oA,<-jo q (p:Y) w,<-hw];omega
   have P:=Int.eq_of_mul_eq_mul_left c L;let ⟨z,hz⟩:=I;refine⟨w-z*(U*f) i,?_⟩;rw[PS.l3,B3,Ff,<-P,hz,jo];omega
  have g:=o.OJ p;have T:=x.OJ p;have N:mk a g*mk f F+mk U Q*mk K T=0:=mk_eq.2 M;have d1:mk a g∣mk U Q*mk K T:=wo (by rw[N];exact dvd_zero _)<|dvd_mul_right _ _;have sG:sz (mk a g)=d+1:=adP H g o.one o.z;have u0:mk U Q=0:=by
   refine s8 H (B.dvd<|by rw[mul_comm];exact d1) ?_;have:=z9 H.pos Q (n:=d) λi D=>by rw[zU i D,gZ]
   omega
  rw[u0,zero_mul,add_zero]at N;have O:mk a g≠0:=λe0=>by rw[e0,kv H.pos]at sG;omega
  have v0:mk f F=0:=fc λhv=>nZ H O hv N
  have X:∀{A R W:PS}(S:bp p W),R=A+PS.K q*W->mk W S=0->Cg (q*p) A R:=λ{A R W} S hA Z=>Cg.symm (Cg.Ug λi=>by have m:=(mk_eq.1 (Z:mk W S=mk 0 (bp.zero p))).dvd i;rw[PS.l3,B3]at m;let ⟨t,ht⟩:=m;refine⟨t,?_⟩;rw[hA,PS.eo,PS.fp,ht,jo];omega)
  exact⟨X Q r u0,X F y v0⟩
def bD(b:V->Bool):V->E (E Y)->E (E Y)
 |_,[]=>[]
 |i,f::l=>if b i then f::bD b (i+1) l else bD b (i+1) l
def kC(m:Y)(g:E Y):E (E Y)->E Y
 |[]=>g
 |f::l=>kC m (tf g f m) l
def pn:E (E Y)->PS
 |[]=>1
 |f::l=>ps f*pn l
def dz:E (E Y)->V
 |[]=>0
 |f::l=>(Z f-1)+dz l
def adS(b:V->Bool):∀(l a:E (E Y))(i:V),bD b i (l++a)=bD b i l++bD b (i+Z l) a
 |[],a,i=>rfl
 |f::l,a,i=>by rw[ln,bD,bD,adS b l a<|i+1,iI,(G:i+1+Z l=i+(Z l+1))];split<;>rfl
def adT(m:Y):∀(l a:E (E Y))(g:E Y),kC m g (l++a)=kC m (kC m g l) a
 |[],_,_=>rfl
 |f::l,a,g=>adT m l a<|tf g f m
def yf{b:V->Bool}{x:E Y}:∀{l:E (E Y)}{i:V},x∈bD b i l->x∈l
 |[],_,h=>h
 |f::l,i,h=>by
  rw[bD]at h;split at h
  .rcases bZ.1 h with rfl|h
   .simp
   .simp[yf h]
  .simp[yf h]
def Jy{b:V->Bool}{a:E Y->E Y->Prop}:∀{l:E (E Y)}{i:V},l.Pairwise a->(bD b i l).Pairwise a
 |[],_,h=>h
 |f::l,i,h=>by
  let ⟨d,h2⟩:=jP.1 h;rw[bD];split
  .exact jP.2 ⟨λy g=>d y<|yf g,Jy h2⟩
  .exact Jy h2
def U9(b:V->Bool):∀(l:E (E Y))(i:V),pn (bD b i l)*pn (bD (λi=> !b i) i l)=pn l
 |[],_=>PS.mul_one 1
 |f::l,i=>by
  have a:=U9 b l<|i+1;rw[bD,bD];cases b i
  .simp only[DW,cd,iF,bQ,pn];rw[<-a];ac_rfl
  .simp only[OK,cd,iF,bQ,pn];rw[<-a];ac_rfl
def OL(b:V->Bool):∀(l:E (E Y))(i:V),dz (bD b i l)+dz (bD (λi=> !b i) i l)=dz l
 |[],_=>rfl
 |f::l,i=>by
  have a:=OL b l<|i+1;rw[bD,bD];cases b i
  .simp only[DW,cd,iF,bQ,dz];omega
  .simp only[OK,cd,iF,bQ,dz];omega
def ON(m:Y):∀(l:E (E Y))(g:E Y),Cg m (ps<|kC m g l) (ps g*pn l)
 |[],g=>Cg.of_eq (PS.mul_one _).symm
 |f::l,g=>by refine(ON m l<|tf g f m).trans<|((U1 g f m).Ch _).trans<|Cg.of_eq ?_;rw[pn];ac_rfl
def apl{a b}{m}(k:1<m)(f:aH a)(g:aH b):aH (tf a b m):=by
 have s:=cR.2 f.1;have t:=cR.2 g.1;have d:=U2 a b m;have l:=Cg.trans (U1 a b m)<|Cg.refl m _;have h:=l.at<|Z a-1+(Z b-1);have n:(ps a*ps b) (Z a-1+(Z b-1))=1:=by
  rw[PS.fD,x8 (a:=Z a-1) G λi u o=>?_]
  .rw[(G:Z a-1+(Z b-1)-(Z a-1)=Z b-1),cG,cG,f.2,g.2];rfl
  .by_cases e:Z a<=i
   .rw[cG,fh a e,nh]
   .rw[cG b,fh b G,gY]
 let ⟨r1,p⟩:=ape a b (by omega:0<m)<|Z a-1+(Z b-1);rw[n,cG,gX r1 p,gX D k]at h;refine⟨λe=>by rw[e]at d;simp at d;omega,?_⟩;rw[d,(G:Z a+Z b-1-1=Z a-1+(Z b-1))];exact h
def Ae{m:Y}(a:1<m):∀{l:E (E Y)}{g:E Y},aH g->(∀f∈l,aH f)->aH (kC m g l)/\Z (kC m g l)=Z g+dz l
 |[],g,hg,_=>⟨hg,J⟩
 |f::l,g,hg,h=>by
  have b:=h f ax;have i:=cR.2 b.1;have k:=cR.2 hg.1;let ⟨d,h2⟩:=Ae a (l:=l) (apl a hg b) λx hx=>h x lj
  refine⟨d,?_⟩;rw[kC,h2,U2,dz];omega
def CL:aH [1]:=⟨ax,J⟩
def aH.uZ{a}(h:aH a):MD (Z a-1) (ps a):=⟨h.2,λi b=>fh a G⟩
def gS(m:Y)(l:E (E Y))(b:V->Bool):E Y:=(kC m [1] (bD b 0 l)).map (dB · m)
section
variable{p:V}
def fU:E (E Y)->Fx p
 |[]=>1
 |f::l=>fx f*fU l
def apm l:bp p (pn l):=by
 induction l with
 |nil=>exact bp.one p
 |cons f l a=>exact(bp.ps p f).mul a
def FU:∀l:E (E Y),(fU l:Fx p)=mk (pn l) (apm l)
 |[]=>rfl
 |f::l=>by rw[fU,FU l];rfl
def Af l m(a:(p:Y)∣m):(fx (kC m [1] l):Fx p)=fU l:=by rw[FU];refine mk_eq.2 ?_;have h:=ON m l [1];rw[NW,PS.one_mul]at h;exact Cg.of λi=>by have b:=h.at i;rw[<-th _ a,b,th _ a]
def u5(H:br p){g}(h:aH g):sz (fx g:Fx p)=Z g:=by have:=cR.2 h.1;have a:=adP H (bp.ps p g) h.uZ.one h.uZ.z;rw[(G:Z g-1+1=Z g)]at a;exact a
def adU(H:br p){g a}(b:aH g)(d:aH a){w:Fx p}(k:sz w=1)(h:fx g=w*fx a):(fx g:Fx p)=fx a:=by
 have n:=u5 H b;have s2:=u5 H d;have o:=cR.2 b.1;have f:w≠0:=λe=>by rw[e,kv H.pos]at k;omega
 have i:(fx a:Fx p)≠0:=λe=>by rw[e,kv H.pos]at s2;have:=cR.2 d.1;omega
 have m:=ef H f i;rw[<-h]at m;obtain⟨c,s,rfl⟩:=FJ H k;have l:ps g (Z g-1)%(p:Y)=(PS.K c*ps a) (Z g-1)%(p:Y):=(mk_eq.1 (h:mk (ps g) (bp.ps p g)=mk (PS.K c*ps a) ((bp.K p c).mul<|bp.ps p a))).at (Z g-1);rw[PS.fp,cG,cG,b.2,(G:Z g-1=Z a-1),d.2,ni]at l;rw[h,(CA l.symm:(K c:Fx p)=K 1),qM,one_mul]
def U'(H:br p){b:Fx p}:∀{l:E (E Y)},l.Pairwise (λx a=>Co (fx x:Fx p)<|fx a)->(∀f∈l,(fx f:Fx p)∣b)->(fU l:Fx p)∣b
 |[],_,_=>⟨b,(mul_one b).symm⟩
 |f::l,hp,h=>by
  let ⟨g,h2⟩:=jP.1 hp;refine Co.ao3 ?_ (h f ax)<|U' H h2 λx hx=>h x lj;have d:∀{l:E (E Y)},(∀a∈l,Co (fx f:Fx p) (fx a))->Co (fx f:Fx p) (fU l):=by
   intro l;induction l with
   |nil=>intro _;exact⟨0,1,by rw[zero_mul,zero_add];exact one_mul 1⟩
   |cons a l i=>intro h;exact(h a ax).mul (i λz k=>h z<|by simp[k])
  exact d g
def Jz{b:V->Bool}{x:E Y}:∀{l:E (E Y)}{i:V},x∈bD b i l->∃a,a<Z l/\b (i+a)=ae/\l.getD a []=x
 |[],_,h=>by cases h
 |f::l,i,h=>by
  rw[bD]at h;split at h
  .rename_i g;rcases bZ.1 h with rfl|h
   .exact⟨0,ax,g,J⟩
   .let ⟨a,k,h2,d⟩:=Jz h;exact⟨a+1,bX,by rw[(G:i+(a+1)=i+1+a)];exact h2,d⟩
  .let ⟨a,k,h2,d⟩:=Jz h;exact⟨a+1,bX,by rw[(G:i+(a+1)=i+1+a)];exact h2,d⟩
def Va{b:V->Bool}:∀{l:E (E Y)}{i j:V},j<Z l->b (i+j)=ae->l.getD j []∈bD b i l
 |[],_,_,h,_=>by simp at h
 |f::l,i,0,_,h=>by rw[bD,q eh];simp
 |f::l,i,j+1,h,a=>by
  have:=Va (l:=l) (i:=i+1) (j:=j) (by simp at h;omega) (by rw[(G:i+1+j=i+(j+1))];exact a);rw[bD];split
  .exact lL _ this
  .exact this
end
def apn{x m}(h:2*(aA x:Y)<m):dB x m=x:=by
 unfold dB;by_cases hx:0<=x
 .rw[gX hx G,y G]
 .have e:x%m=x+m:=by rw[<-Int.add_emod_right,gX G G]
  rw[e,q G];omega
end Go.El
namespace Go.El
open Go Go.Proofs Go.RowKit
namespace Rx
def Vb{f a B}(g:Mo f)(b:f=a*B)(p:sz a≠1)(s:sz B≠1):∃u v,Mo u/\Mo v/\f=u*v/\2<=sz u/\2<=sz v:=by
 have h:a≠0:=λi=>g.ne (by rw[b,i,zero_mul])
 have k:B≠0:=λi=>g.ne (by rw[b,i,mul_zero])
 let ⟨c,hc,hm⟩:=acP h;have l:f=(K c⁻¹ *B)*(K c*a):=by have m:K c⁻¹ *B*(K c*a)=(K c⁻¹ *K c)*(a*B):=fq;rw[m,ph hc,one_mul,<-b]
 have n:Mo (K c⁻¹ *B):=by rw[l]at g;exact g.zZ hm
 have t:=fo h;have w:=fo k;have o:=ef (s7 hc) h;have d:c⁻¹ ≠0:=λb=>by have:=nq _ hc;rw[b,mO]at this;exact absurd this D
 have s2:=ef (s7 d) k;rw[wz hc]at o;rw[wz d]at s2;exact⟨K c*a,K c⁻¹ *B,hm,n,by rw[l,mul_comm],G,G⟩
def OO{u v}(l:Mo u)(m:Mo v)(h:c9 (u*v)):c9 u/\c9 v:=by
 let ⟨a,f⟩:=Jn u;let ⟨b,g⟩:=Jn v;have one:∀A:Rx,K ((1:V):Rat)*A=A:=λA=>one_mul A
 have n:Dn (u*v) 1:=⟨D,by rw[one];exact h,λd _=>Nat.one_dvd d⟩;have e:=ac2 l m f g n;have o:a=1:=Nat.dvd_one.1 ⟨b,e⟩;have p:b=1:=Nat.dvd_one.1 ⟨a,by rw[hJ];exact e⟩;subst o p;have i:=f.int;have k:=g.int;rw[one]at i k;exact⟨i,k⟩
def po:E (E Y)->Rx
 |[]=>1
 |f::l=>zx f*po l
end Rx
open Fx
def b8(b:V->Bool):V->V
 |0=>0
 |n+1=>b8 b n+(if b n then 1 else 0)
def JA{b a:V->Bool}:∀{n:V},(∀i,i<n->b i=a i)->b8 b n=b8 a n
 |0,_=>rfl
 |n+1,h=>by rw[b8,b8,JA<|λi d=>h i G,h n G]
def adV{b a:V->Bool}:∀{n:V},(∀i,i<n->b i=ae->a i=ae)->b8 b n<=b8 a n
 |0,_=>aT _
 |n+1,h=>by
  have g:=adV (n:=n) λi k=>h i G
  have d:=h n G;rw[b8,b8];cases f:b n
  .simp only[iF,bQ];omega
  .rw[d f];simp only[cd];omega
def Vc{b c:V->Bool}:∀{n:V},(∀i,i<n->b i=ae->c i=ae)->(∃i,i<n/\b i=ah/\c i=ae)->b8 b n<b8 c n
 |0,_,⟨i,h,_⟩=>absurd h G
 |n+1,h,⟨i,l,h2,a⟩=>by
  rw[b8,b8];by_cases d:i=n
  .subst d;have:=adV (n:=i) λj f=>h j G
   rw[h2,a];simp;omega
  .have m:=Vc (n:=n) (λj f=>h j G) ⟨i,G,h2,a⟩;have g:=h n G;cases k:b n
   .simp only[iF,bQ];omega
   .rw[g k];simp only[cd];omega
def Vd(b:V->Bool):∀n,b8 b n+b8 (λi=> !b i) n=n
 |0=>rfl
 |n+1=>by have:=Vd b n;rw[b8,b8];cases b n<;>simp<;>omega
def adW{b:V->Bool}:∀{n:V},0<b8 b n->∃i,i<n/\b i=ae
 |0,h=>absurd h (by simp[b8])
 |n+1,h=>by
  cases a:b n
  .rw[b8,a]at h;obtain⟨i,f,d⟩:=adW (n:=n) eh;exact⟨i,G,d⟩
  .exact⟨n,G,a⟩
def Ve{b:V->Bool}{n i}(a:i<n)(h:b i=ae):0<b8 b n:=by have:=Vc (b:=λ_=>ah) (c:=b) (n:=n) (λj _ d=>by cases d) ⟨i,a,J,h⟩;omega
def pq(b:V->Bool):V->V
 |0=>0
 |n+1=>(if b n then 2^n else 0)+pq b n
def OP(b:V->Bool):∀n,pq b n<2^n
 |0=>Gu
 |n+1=>by have:=OP b n;rw[pq,fQ];split<;>omega
def Vf(b:V->Bool):∀{n i:V},i<n->mY (pq b n) i=b i
 |0,_,h=>absurd h G
 |n+1,i,h=>by
  rw[pq];by_cases f:i=n
  .subst f;have a:=Nat.testBit_lt_two_pow<|OP b i;cases g:b i
   .simp only[iF,bQ,eP];exact a
   .simp only[cd];rw[Nat.testBit_two_pow_add_eq,a];rfl
  .have d:=Vf b (n:=n) (i:=i) G;cases g:b n
   .simp only[iF,bQ,eP];exact d
   .simp only[cd];rw[Nat.testBit_two_pow_add_gt G];exact d
def u6(n s:V):E V:=(cw<|2^n).filter λS=>b8 S.testBit n==s
def mc(n:V):E V:=(cw<|n/2).flatMap λs=>u6 n<|s+1
def Ag{n T}:T∈mc n↔T<2^n/\1<=b8 T.testBit n/\b8 T.testBit n<=n/2:=by
 unfold mc u6;simp only[iV,pO,oM,beq_iff_eq];constructor
 .rintro⟨s,a,b,d⟩;omega
 .rintro⟨a,b,d⟩;exact⟨b8 T.testBit n-1,G,a,G⟩
def apo n:(mc n).Pairwise (λx a=>b8 x.testBit n<=b8 a.testBit n):=by
 have d:∀k,((cw k).flatMap λs=>u6 n<|s+1).Pairwise (λx a=>b8 x.testBit n<=b8 a.testBit n):=by
  intro k;induction k with
  |zero=>exact .nil
  |succ k g=>
   rw[yB,D5]
   refine yg.2 ⟨g,?_,λx b a f=>?_⟩
   .simp only[lq,OQ,ik];refine Ot ?_ (List.pairwise_of_forall (R:=λ_ _=>True) (λ_ _=>trivial):(u6 n<|k+1).Pairwise λ_ _=>True);intro x a b f _;simp only[u6,oM,beq_iff_eq]at b f;omega
   .simp only[iV,pO,lq,OQ,ik,u6,oM,beq_iff_eq]at b f;let ⟨s,h,h2,i⟩:=b;omega
 exact d _
structure g6(p:V)(m:Y)(a:E Y)(l:E (E Y)):Prop where
 H:br p
 pm:∃e,1<=e/\m=(p:Y)^e
 am:aH a
 lm:∀f∈l,aH f
 gH:∀f∈l,bu (fx f:Fx p)
 pair:l.Pairwise (λx b=>Co (fx x:Fx p)<|fx b)
 pr:Cg m (ps a) (pn l)
 lG:qR (fx a:Fx p)
 len:a.length=1+dz l
 bd:∀g,aH g->Rx.zx g∣Rx.zx a->∀i,2*((g.getD i 0).natAbs:Y)<m
section
variable{p:V}{m:Y}{a:E Y}{l:E (E Y)}
def g6.m1(h:g6 p m a l):1<m/\(p:Y)∣m:=by obtain⟨e,d,rfl⟩:=h.pm;have f:=h.H.hp.1;obtain⟨e,rfl⟩:∃b,e=b+1:=⟨e-1,G⟩;have g:(0:Y)<(p:Y)^e:=nT G;rw[fH];refine⟨?_,CK _ _⟩;have i:=hZ (G:(1:Y)<=(p:Y)^e) (G:(0:Y)<=p);omega
def g6.co(h:g6 p m a l){i b}(d:i<Z l)(f:b<Z l)(g:i≠b):Co (fx (l.getD i []):Fx p) (fx<|l.getD b []):=by
 have k:=List.pairwise_iff_getElem.1 h.pair;rw[aN,aN,cO d,cO f];rcases aoQ g with e|e
 .exact k i b d f e
 .exact(k b i f d e).symm
def g6.JB(h:g6 p m a l){i}(b:i<Z l):l.getD i []∈l:=by rw[aN,cO b];exact tR b
def adX{Q:Fx p}(H:br p)(b:bu Q):∀{l:E (E Y)},Q∣fU l->∃f∈l,Q∣fx f
 |[],h=>absurd h<|b.Cu H
 |f::l,h=>by
  rcases b.oE H h with d|d
  .exact⟨f,ax,d⟩
  .let ⟨x,h1,h2⟩:=adX H b d;exact⟨x,z4,h2⟩
def g6.apq(h:g6 p m a l)(b:V->Bool):(fx (gS m l b):Fx p)=fU (bD b 0 l):=by let ⟨d,h2⟩:=h.m1;rw[<-Af (bD b 0 l) m h2];refine Oo<|Cg.of λi=>?_;rw[cG,cG,gS,qV _ G,<-th _ h2,Ad G,th _ h2]
def g6.CM(h:g6 p m a l)(b:V->Bool):aH (gS m l b)/\Z (gS m l b)=1+dz (bD b 0 l):=by let ⟨d,h2⟩:=h.m1;let ⟨g,i⟩:=Ae d CL (λf k=>h.lm f (yf k):∀f∈bD b 0 l,aH f);refine⟨CJ d g,?_⟩;rw[gS,cT,i];rfl
def g6.adY(h:g6 p m a l)(b:V->Bool){g}(k:g<Z l):(fx (l.getD g []):Fx p)∣fx (gS m l b)↔b g=ae:=by
 rw[h.apq];constructor
 .intro t;let ⟨f,d,u⟩:=adX h.H (h.gH _<|h.JB k) t;let ⟨i,h2,o,v⟩:=Jz d;rw[eP]at o;by_cases e:g=i
  .rw[e];exact o
  .have s:=h.co k h2 e;rw[v]at s;have:=s.unit h.H u;have:=(h.gH _<|h.JB k).1;omega
 .intro w;have:=Va (b:=b) (l:=l) (i:=0) (j:=g) k (by rw[eP];exact w);have n:∀{l:E (E Y)}{f:E Y},f∈l->(fx f:Fx p)∣fU l:=by
   intro l;induction l with
   |nil=>intro f d;cases d
   |cons y l x=>
    intro f d
    rcases bZ.1 d with rfl|d
    .exact dvd_mul_right _ _
    .exact dQ (x d) _
  exact n this
def CN{b c:V->Bool}:∀{l:E (E Y)}{i:V},(∀d,d<Z l->b (i+d)=c (i+d))->bD b i l=bD c i l
 |[],_,_=>rfl
 |f::l,i,h=>by
  have g:=CN (b:=b) (c:=c) (l:=l) (i:=i+1) λd k=>by have:=h (d+1) bX;rwa[(G:i+(d+1)=i+1+d)]at this
  rw[bD,bD,g];have:=h 0 ax;rw[jv]at this;rw[this]
def Vg{x b d}(h:ps x*ps b=ps d):(fx d:Fx p)=fx x*fx b:=(mk_congr h ((bp.ps p x).mul<|bp.ps p b)<|bp.ps p d).symm
def g6.mask(h:g6 p m a l){g k}(B:aH g)(hk:aH k)(cz:Rx.zx a=Rx.zx g*Rx.zx k):
  ∃b:V->Bool,g=gS m l b/\k=gS m l (λi=> !b i)/\(∀d,d<Z l->(b d=ae↔(fx (l.getD d []):Fx p)∣fx g))/\Cg m (ps g) (pn<|bD b 0 l)/\Cg m (ps k) (pn<|bD (λi=> !b i) 0 l):=by
 let ⟨C,o⟩:=h.m1
 have H:=h.H
 have K:(1:Y)<p:=CC
 have L:=Rx.OG cz.symm
 have s:(fx a:Fx p)=fx g*fx k:=Vg L
 classical
 let b:V->Bool:=λd=>decide<|(fx (l.getD d []):Fx p)∣fx g
 have U:∀d,b d=ae↔(fx (l.getD d []):Fx p)∣fx g:=λd=>decide_eq_true_iff
 have u:∀c:V->Bool,∀f∈bD c 0 l,aH f:=λc f n=>h.lm f<|yf n
 have d1:(fU (bD b 0 l):Fx p)∣fx g:=U' H (Jy h.pair) λf n=>by let ⟨d,_,h2,h3⟩:=Jz n;rw[eP]at h2;rw[<-h3];exact(U d).1 h2
 have eA:(fx a:Fx p)=fU l:=by rw[FU];refine mk_eq.2<|Cg.of λi=>?_;have:=h.pr.at i;rw[<-th _ o,this,th _ o]
 have P:∀{l:E (E Y)}{f:E Y},f∈l->(fx f:Fx p)∣fU l:=by
  intro l;induction l with
  |nil=>intro f n;cases n
  |cons y l ih=>
   intro f n
   rcases bZ.1 n with rfl|n
   .exact dvd_mul_right _ _
   .exact dQ (ih n) _
 have d2:(fU (bD (λi=> !b i) 0 l):Fx p)∣fx k:=U' H (Jy h.pair) λf n=>by
  let ⟨d,v,h2,h3⟩:=Jz n;rw[eP]at h2;have T:=h.JB v;rw[<-h3];have hd:(fx (l.getD d []):Fx p)∣fx g*fx k:=by rw[<-s,eA];exact P T
  rcases(h.gH _ T).oE H hd with e1|e1
  .rw[(U d).2 e1]at h2;cases h2
  .exact e1
 have e2:(fU (bD b 0 l)*fU (bD (λi=> !b i) 0 l):Fx p)=fU l:=by rw[FU,FU,FU,adh];exact mk_congr (U9 b l 0) _ _
 let ⟨w,hw⟩:=d1
 let ⟨W,x⟩:=d2
 have X:(fx a:Fx p)≠0:=λq=>by have v:=u5 H h.am;rw[q,kv H.pos]at v;have:=cR.2 h.am.1;omega
 have ww:w*W=1:=by refine zY H (A:=(fU l:Fx p)) (by rw[<-eA];exact X) ?_;rw[one_mul,<-e2];have e3:w*W*(fU (bD b 0 l)*fU (bD (λi=> !b i) 0 l))=w*fU (bD b 0 l)*(W*fU (bD (λi=> !b i) 0 l)):=fq;rw[e3,<-hw,<-x,<-s,eA,e2]
 have sw:sz w=1:=x4 H (by rw[mul_comm];exact ww:W*w=1)
 have sw':sz W=1:=x4 H ww
 let ⟨r,tl1⟩:=Ae K CL<|u b
 let ⟨z,tl2⟩:=Ae K CL<|u λi=> !b i
 have eg:(fx g:Fx p)=fU (bD b 0 l):=by have hp:=Af (p:=p) (bD b 0 l) p<|JC _;rw[<-hp]at hw⊢;exact adU H B r sw hw
 have ek:(fx k:Fx p)=fU (bD (λi=> !b i) 0 l):=by have hp:=Af (p:=p) (bD (λi=> !b i) 0 l) p<|JC _;rw[<-hp]at x⊢;exact adU H hk z sw' x
 have lg:Z g=1+dz (bD b 0 l):=by have v:=u5 H B;rw[eg,<-Af (p:=p) (bD b 0 l) p (JC _),u5 H r,tl1]at v;rw[<-v];rfl
 have lk:Z k=1+dz (bD (λi=> !b i) 0 l):=by have v:=u5 H hk;rw[ek,<-Af (p:=p) (bD (λi=> !b i) 0 l) p (JC _),u5 H z,tl2]at v;rw[<-v];rfl
 let ⟨um1,D⟩:=Ae C CL<|u b
 let ⟨um2,F⟩:=Ae C CL<|u λi=> !b i
 have c1:Cg p (ps g) (ps<|kC m [1] (bD b 0 l)):=mk_eq.1 (eg.trans (Af (bD b 0 l) m o).symm:Fx.mk (ps g) (bp.ps p g)=Fx.mk (ps<|kC m [1] (bD b 0 l)) (bp.ps p _))
 have c2:Cg p (ps k) (ps<|kC m [1] (bD (λi=> !b i) 0 l)):=mk_eq.1 (ek.trans (Af (bD (λi=> !b i) 0 l) m o).symm:Fx.mk (ps k) (bp.ps p k)=Fx.mk (ps<|kC m [1] (bD (λi=> !b i) 0 l)) (bp.ps p _))
 have hco:Co (fx g:Fx p) (fx k):=FK H (λq=>X<|by rw[s,q,zero_mul]) λQ hQ q1 q2=>h.lG Q hQ (by rw[s];exact x5 q1 q2)
 have M:MD (Z g-1) (ps<|kC m [1] (bD b 0 l)):=by have:=um1.uZ;rwa[D,show Z ([1]:E Y)=1 from J,<-lg]at this
 have N:MD (Z k-1) (ps<|kC m [1] (bD (λi=> !b i) 0 l)):=by have:=um2.uZ;rwa[F,show Z ([1]:E Y)=1 from J,<-lk]at this
 let ⟨q,he1,O⟩:=h.pm
 have t1:=ON m (bD b 0 l) [1]
 have t2:=ON m (bD (λi=> !b i) 0 l) [1]
 rw[NW,PS.one_mul]at t1 t2
 have zh:Cg m (ps g*ps k) (ps (kC m [1] (bD b 0 l))*ps (kC m [1] (bD (λi=> !b i) 0 l))):=by rw[L];refine h.pr.trans ?_;rw[<-U9 b l 0];exact(t1.mul t2).symm
 have R:=adQ H B.uZ M hk.uZ N hco c1 c2 q he1<|O▸zh
 rw[<-O]at R
 have S:∀{g:E Y}{t:E Y},aH g->Rx.zx g∣Rx.zx a->Z g=Z t->Cg m (ps g) (ps t)->g=t.map (dB · m):=by
  intro g t B hd hl hc;refine OC (by rw[cT,hl]) λd _=>?_
  rw[qV _ G,<-OI (a:=I g d 0) (b:=I t d 0) (hc.at d)];exact(apn<|h.bd g B hd d).symm
 refine⟨b,S B (by rw[cz];exact Rx.dvd_mul_right _ _) (by rw[D,lg];rfl) R.1,S hk (by rw[cz];exact Rx.dvd_mul_left _ _) (by rw[F,lk];rfl) R.2,λd _=>U d,R.1.trans t1,R.2.trans t2⟩
def g6.adZ(h:g6 p m a l){b:V->Bool}(k:0<b8 b (Z l)):1<=dz (bD b 0 l):=by
 let ⟨j,d,h2⟩:=adW k;have n:=Va (b:=b) (l:=l) (i:=0) d (by rw[eP];exact h2);have o:=(h.gH _<|h.JB d).1;rw[u5 h.H (h.lm _<|h.JB d)]at o;have f:∀{L:E (E Y)},l.getD j []∈L->1<=dz L:=by
  intro L;induction L with
  |nil=>intro g;cases g
  |cons y L s=>
   intro g
   rw[dz]
   rcases bZ.1 g with e|e
   .rw[<-e];omega
   .have:=s e;omega
 exact f n
def g6.Fv(h:g6 p m a l){u v}(b:Rx.Mo u)(d:Rx.Mo v)(i:Rx.zx a=u*v):∃g k,aH g/\aH k/\Rx.zx g=u/\Rx.zx k=v:=by let ⟨i1,i2⟩:=Rx.OO b d<|i▸Rx.CI a;let ⟨g,n,g2⟩:=Rx.OE i1;let ⟨k,o,f⟩:=Rx.OE i2;exact⟨g,k,Rx.OF n<|g2▸b,Rx.OF o<|f▸d,g2,f⟩
def g6.first(h:g6 p m a l){d}(hS:d∈mc (Z l))(hd:Rx.zx (gS m l d.testBit)∣Rx.zx a)(hf:∀T∈mc (Z l),b8 T.testBit (Z l)<b8 d.testBit (Z l)->¬Rx.zx (gS m l T.testBit)∣Rx.zx a):Rx.bu (Rx.zx<|gS m l d.testBit):=by
 let ⟨_,O,R⟩:=Ag.1 hS;let ⟨x,gl⟩:=h.CM d.testBit;have U:=h.adZ (b:=d.testBit) G;refine⟨by rw[Rx.k5 x.can];omega,λA B e=>fc λF=>?_⟩;let ⟨u,v,hu,hv,C,su,sv⟩:=Rx.Vb (Rx.n9 x) e (λh=>F<|.inl h)<|λh=>F<|.inr h;let ⟨k,I⟩:=hd;have K:Rx.Mo k:=by have:=Rx.n9 h.am;rw[I]at this;exact this.zZ<|Rx.n9 x
 have P:Rx.zx a=u*(k*v):=by rw[I,C];ac_rfl
 let ⟨n,k',J,k1,g2,k2⟩:=h.Fv hu (K.mul hv) P;let ⟨b,M,b2,b3,_⟩:=h.mask J k1 (by rw[g2,k2];exact P);have Q:∃o,aH o/\Rx.zx o=v:=by let ⟨_,i2⟩:=Rx.OO hu hv<|C▸Rx.CI _;let ⟨o,v1,v2⟩:=Rx.OE i2;exact⟨o,Rx.OF v1<|v2▸hv,v2⟩
 let ⟨o,_,v2⟩:=Q;have W:(fx (gS m l d.testBit):Fx p)=fx n*fx o:=Vg (Rx.OG<|by rw[g2,v2];exact C.symm);have sub:∀i,i<Z l->b i=ae->mY d i=ae:=λi H s=>(h.adY d.testBit H).1 (by rw[W];exact ma ((b3 i H).1 s) _)
 have g:Z n=1+dz (bD b 0 l):=by rw[M];exact(h.CM b).2
 have sg':Rx.sz u=Z n:=by rw[<-g2,Rx.k5 J.can]
 have X:Z n<Z (gS m l d.testBit):=by have:=Rx.ef hu.ne hv.ne;rw[<-C,Rx.k5 x.can]at this;omega
 have q:∃i,i<Z l/\b i=ah/\mY d i=ae:=fc λr=>by
  have:bD b 0 l=bD d.testBit 0 l:=CN λj t=>by
   rw[eP];cases s:b j
   .cases hs:mY d j
    .rfl
    .exact absurd ⟨j,t,s,hs⟩ r
   .exact(sub j t s).symm
  rw[g,this]at X;omega
 have pQ:=Vc sub q;have uc:0<b8 b (Z l):=by
  rcases qD (b8 b<|Z l)with N|N
  .have:bD b 0 l=bD (λ_=>ah) 0 l:=CN λj t=>by
    rw[eP];cases s:b j
    .rfl
    .have:=Ve t s;omega
   have z:∀(L:E (E Y))(i:V),bD (λ_=>ah) i L=[]:=by
    intro L;induction L with
    |nil=>intro i;rfl
    |cons bN L ih=>intro i;rw[bD,y D,ih]
   rw[this,z]at g;have:Z n=1:=g;omega
  .exact N
 have f:∀i,i<Z l->mY (pq b<|Z l) i=b i:=λi H=>Vf b H
 have BM:b8 (pq b<|Z l).testBit (Z l)=b8 b (Z l):=JA f;have w:gS m l (pq b<|Z l).testBit=n:=by rw[M,gS,gS,CN (b:=(pq b<|Z l).testBit) (c:=b) λj t=>by rw[eP];exact f j t]
 refine hf (pq b<|Z l) (Ag.2 ⟨OP b _,G,G⟩) G ?_;rw[w,g2,P];exact Rx.dvd_mul_right _ _
def g6.none(h:g6 p m a l)(hl:l≠[])(hf:∀T∈mc (Z l),¬Rx.zx (gS m l T.testBit)∣Rx.zx a):Rx.bu (Rx.zx a):=by
 have o:=cR.2 hl;have f:=h.adZ (b:=λ_=>ae)<|Ve (i:=0) o J;have R:∀(L:E (E Y))(i:V),bD (λ_=>ae) i L=L:=by
  intro L;induction L with
  |nil=>intro i;rfl
  |cons S L s=>intro i;rw[bD,q J,s]
 rw[R]at f;have H:=h.len;refine⟨by rw[Rx.k5 h.am.can];omega,λA B e=>fc λK=>?_⟩;let ⟨u,v,hu,hv,n,P,Q⟩:=Rx.Vb (Rx.n9 h.am) e (λh=>K<|.inl h)<|λh=>K<|.inr h;let ⟨g,k,W,X,g2,t⟩:=h.Fv hu hv n;let ⟨b,r,F,b3,_⟩:=h.mask W X (by rw[g2,t];exact n);have pos:∀{c:V->Bool}{x:E Y},x=gS m l c->2<=Z x->0<b8 c (Z l):=by
  intro c x w h2;rcases qD (b8 c<|Z l)with I|I
  .have U:bD c 0 l=bD (λ_=>ah) 0 l:=CN λj C=>by
    rw[eP];cases hb:c j
    .rfl
    .have:=Ve C hb;omega
   have z:∀(L:E (E Y))(i:V),bD (λ_=>ah) i L=[]:=by
    intro L;induction L with
    |nil=>intro i;rfl
    |cons S L s=>intro i;rw[bD,y D,s]
   have M:=(h.CM c).2;rw[<-w,U,z]at M;have:Z x=1:=M;omega
  .exact I
 have p1:=pos r (by rw[<-g2,Rx.k5 W.can]at P;exact P);have p2:=pos F (by rw[<-t,Rx.k5 X.can]at Q;exact Q);have N:=Vd b<|Z l;have O:∀(c:V->Bool)(x:E Y),x=gS m l c->0<b8 c (Z l)->b8 c (Z l)<=Z l/2->Rx.zx x∣Rx.zx a->False:=by
  intro c x w hp hle hd;have d:∀i,i<Z l->mY (pq c<|Z l) i=c i:=λi hi=>Vf c hi
  have BM:b8 (pq c<|Z l).testBit (Z l)=b8 c (Z l):=JA d;refine hf (pq c<|Z l) (Ag.2 ⟨OP c _,G,G⟩) ?_;rw[show gS m l (pq c<|Z l).testBit=x by rw[w,gS,gS,CN (b:=(pq c<|Z l).testBit) (c:=c) λj C=>by rw[eP];exact d j C]];exact hd
 by_cases hh:b8 b (Z l)<=Z l/2
 .exact O b g r p1 hh (by rw[g2,n];exact Rx.dvd_mul_right _ _)
 .exact O _ k F p2 G (by rw[t,n];exact Rx.dvd_mul_left _ _)
end
open Classical in
noncomputable def mQ(a g:E Y):E Y:=if h:∃q,aH q/\Rx.zx a=Rx.zx g*Rx.zx q then yb h else[]
open Classical in
noncomputable def tj(m:Y)(a:E Y)(l:E (E Y)):Option V:=(mc<|Z l).find? λS=>decide<|Rx.zx (gS m l S.testBit)∣Rx.zx a
noncomputable def r8(m:Y):V->E Y->E (E Y)->E (E Y)
 |0,a,_=>[a]
 |k+1,a,l=>match tj m a l with
  |some b=>gS m l b.testBit::r8 m k (mQ a<|gS m l b.testBit) (bD (λi=> !b.testBit i) 0 l)
  |none=>[a]
open Classical in
def ad0{m}{a}{l}{d}(h:tj m a l=ad d):∃b f,mc (Z l)=b++d::f/\Rx.zx (gS m l d.testBit)∣Rx.zx a/\∀T∈b,¬Rx.zx (gS m l T.testBit)∣Rx.zx a:=by unfold tj at h;let ⟨g,b,f,h2,i⟩:=List.find?_eq_some_iff_append.1 h;refine⟨b,f,h2,aW g,λT k n=>?_⟩;have:=i T k;rw[G3]at this;exact bc this n
open Classical in
def apy{m}{a}{l}(h:tj m a l=none):∀T∈mc (Z l),¬Rx.zx (gS m l T.testBit)∣Rx.zx a:=by unfold tj at h;intro T b d;exact List.find?_eq_none.1 h T b<|qB d
section
variable{p:V}{m:Y}{a:E Y}{l:E (E Y)}
def g6.apz(h:g6 p m a l){b}(i:tj m a l=ad b):Rx.bu (Rx.zx<|gS m l b.testBit):=by
 let ⟨us,ws,d,h2,k⟩:=ad0 i;have n:b∈mc (Z l):=by rw[d];simp
 refine h.first n h2 λT f o=>?_
 have g:=apo<|Z l;rw[d]at f g;rcases be.1 f with e|e
 .exact k T e
 .exfalso;rcases bZ.1 e with e|e
  .subst e;omega
  .have:=(jP.1 (yg.1 g).2.1).1 T e;omega
def g6.rest(h:g6 p m a l){d}(hS:d∈mc (Z l))(hd:Rx.zx (gS m l d.testBit)∣Rx.zx a):Rx.zx a=Rx.zx (gS m l d.testBit)*Rx.zx (mQ a<|gS m l d.testBit)/\g6 p m (mQ a<|gS m l d.testBit) (bD (λi=> !d.testBit i) 0 l)/\bD (λi=> !d.testBit i) 0 l≠[]/\Z (bD (λi=> !d.testBit i) 0 l)<Z l:=by
 let ⟨_,D,F⟩:=Ag.1 hS;let ⟨x,gl⟩:=h.CM d.testBit;have s:∃q,aH q/\Rx.zx a=Rx.zx (gS m l d.testBit)*Rx.zx q:=by
  let ⟨k,B⟩:=hd;have C:Rx.Mo k:=by have:=Rx.n9 h.am;rw[B]at this;exact this.zZ<|Rx.n9 x
  let ⟨I,z,J,_,M,_⟩:=h.Fv C (Rx.n9 x) B;exact⟨I,J,by rw[M,B,Rx.mul_comm]⟩
 let ⟨K,t⟩:=wu s;have N:mQ a (gS m l d.testBit)=yb s:=by unfold mQ;rw[dif_pos s]
 rw[<-N]at K t;generalize hg:gS m l d.testBit=g at*;generalize mQ a g=q at*;let ⟨b,b1,O,R,b4,U⟩:=h.mask x K t;have P:∀j,j<Z l->b j=mY d j:=λj w=>by
  have Q:=R j w;rw[<-hg,h.adY d.testBit w]at Q;cases T:b j
  .cases hs:mY d j
   .rfl
   .rw[Q.2 hs]at T;cases T
  .exact(Q.1 T).symm
 have o:bD (λi=> !b i) 0 l=bD (λi=> !d.testBit i) 0 l:=CN λj w=>by rw[eP,P j w]
 have u:∀(c:V->Bool)(L:E (E Y))(i:V),Z (bD c i L)=b8 (λj=>c<|i+j) (Z L):=by
  intro c L;induction L with
  |nil=>intro i;rfl
  |cons y L ih=>
   intro i
   have sh:∀n,b8 (λj=>c<|i+j) (n+1)=(if c i then 1 else 0)+b8 (λj=>c<|i+1+j) n:=by
    intro n;induction n with
    |zero=>rw[b8,b8,b8];simp
    |succ n W=>rw[b8,W,b8,(G:i+(n+1)=i+1+n)];omega
   rw[bD,iI,sh]
   have:=ih<|i+1
   split
   .rw[iI];omega
   .omega
 have v:Z (bD (λi=> !d.testBit i) 0 l)=b8 (λi=> !d.testBit i) (Z l):=by rw[u];exact JA λi _=>by rw[eP]
 have A:=Vd d.testBit<|Z l;refine⟨t,?_,λe=>by rw[e]at v;simp at v;omega,G⟩;have X:Rx.zx q∣Rx.zx a:=by rw[t];exact Rx.dvd_mul_left _ _
 refine⟨h.H,h.pm,K,λf r=>h.lm f<|yf r,λf r=>h.gH f<|yf r,Jy h.pair,o▸U,?_,?_,λz g1 g2=>h.bd z g1<|Rx.dvd_trans g2 X⟩
 .refine h.lG.of_dvd ?_;rw[Vg (Rx.OG t.symm)];exact dvd_mul_left _ _
 .rw[O,(h.CM _).2,o]
def g6.all:∀(k:V){a:E Y}{l:E (E Y)},Z l<=k->l≠[]->g6 p m a l->(∀b∈r8 m k a l,aH b/\Rx.bu (Rx.zx b))/\Rx.po (r8 m k a l)=Rx.zx a
 |0,_,l,g,h2,_=>absurd (gK G) h2
 |k+1,a,l,g,h2,h=>by
  rw[r8];cases d:tj m a l with
  |none=>
   have i:=h.none h2<|apy d
   refine⟨λb f=>?_,Rx.mul_one _⟩
   rw[iw.1 f]
   exact⟨h.am,i⟩
  |some S=>
   let ⟨us,ws,s1,s2,_⟩:=ad0 d
   have n:S∈mc (Z l):=by rw[s1];simp
   let ⟨r1,o,s,t⟩:=h.rest n s2
   let ⟨i1,i2⟩:=g6.all k G s o
   refine⟨λb f=>?_,by rw[Rx.po,i2,<-r1]⟩
   rcases bZ.1 f with e|e
   .rw[e];exact⟨(h.CM _).1,h.apz d⟩
   .exact i1 b e
end
end Go.El
namespace Go.El
open Go Go.Proofs Go.RowKit
def ad1{m}(h:Z (r m)<=2):m<18446744073709551616:=by have a:=uE (n:=m);have b:(4294967296:Y)^2=18446744073709551616:=rfl;have d:(4294967296:Y)^1=4294967296:=rfl;have f:(4294967296:Y)^0=1:=rfl;rcases(G:Z (r m)=0\/Z (r m)=1\/Z (r m)=2)with e|e|e<;>rw[e]at a<;>omega
def apA a b(p:Sm a)(s:Sm b):ao c 157 [aZ a,aZ b] (aZ ((Int.gcd a b:V):Y)):=by
 refine aL Tryz.func157 ?_;refine e J<|R<|rc J J (xT<|aA a)<|rc J J (Nd _ p)<|rc J J (xT<|aA b)<|rc J J (Nd _ s)<|z J ?_ (ho:=apd eL);refine j<|az<|bq (α:=V×V) (λx=>⟨[(4,.c<|.P 2000 0),(5,S al<|r x.1),(6,S al<|r x.2)],[(2000,.box 42 0 [.B ah,.V<|.slice none 0 0])],2,[]⟩) (λx=>Nat.gcd x.1 x.2=Int.gcd a b/\Z (r x.1)<=1099511627776/\Z (r x.2)<=1099511627776) (λx=>x.2) (aA a,aA b) ⟨J,p,s⟩ (wk (bM J) ⟨bE J J,A⟩) ?_;rintro⟨m,k⟩ ⟨hg,hm,l⟩;simp only at hg hm l;refine j<|e J<|F J (λh=>?_)<|λh=>?_
 .have h:k≠0:=by have h:(Z (r k):Y)>0:=aW h;exact oX.1 G
  refine aE<|az<|nX ⟨[(4,.c<|.P 2000 0),(5,S al<|r m),(6,S al<|r k)],[(2000,.box 42 0 [.B ah,.V<|.slice none 0 0])],8,[]⟩ ?_<|λf=>R<|rg 25 J J (λg=>z J<|F J (λh2=>?_)<|λh2=>dc<|fJ f<|wk (bM J) ⟨bE J J,A⟩)<|λg=>z J<|F J (λh2=>qJ)<|λh2=>dc<|fJ f<|wk (bM J) ⟨bE J J,A⟩
  .refine bH J J (abW m k h hm) J (rt J<|fB<|a4 (k,m%k) ⟨?_,l,?_⟩ (fN _ G)<|wk (bM J) ⟨bE J J,A⟩)
   .show Nat.gcd k (m%k)=_;rw[<-hg,zA m k,Nat.gcd_rec k m,zA]
   .exact b6 (sZ<|BZ<|fN _ G) l
  .have g:Z (r m)<=2:=by have g:(Z (r m):Y)<=2:=aW g;omega
   have h2:Z (r k)<=2:=by have h2:(Z (r k):Y)<=2:=aW h2;omega
   have t:=ad1 g;have w:=ad1 h2;refine R<|rc J J (abY m t)<|rc J J (abY k w)<|z J ?_;refine j<|az<|bq (α:=V×V) (λx=>⟨[(4,.c<|.P 2000 0),(7,cU x.1),(8,cU x.2)],[(2000,.box 42 0 [.B ah,.V<|.slice none 0 0])],10,[]⟩) (λx=>Nat.gcd x.1 x.2=Int.gcd a b/\x.1<18446744073709551616/\x.2<18446744073709551616) (λx=>x.2) (m,k) ⟨hg,t,w⟩ (wk (bM J) ⟨bE J J,A⟩) ?_;rintro⟨u,v⟩ ⟨i,g2,C⟩;simp only at i g2 C;refine j<|e J<|F J (λd=>?_)<|λd=>?_
   .have d:0<v:=by have d:(v:Y)>0:=aW d;omega
    have n:=fN u d;refine aE<|az<|rt J (fB<|a4 (v,u%v) ⟨?_,C,by show u%v<_;omega⟩ n<|wk ⟨sR J,sR J,sE J ?_,A⟩ ⟨bE J J,A⟩) (hp:=?_)
    .show Nat.gcd v (u%v)=_;rw[<-i,zA u v,Nat.gcd_rec v u,zA]
    .exact bP<|mI u v
    .simp only[Pr.an,Pr.h,num,fX,true_and,and_true];omega
   .have d:v=0:=by have d:¬(v:Y)>0:=bc d;omega
    subst d;rw[M5]at i;subst i;refine bt<|aK<|R<|rc J J (Nb _ g2)<|rc J J (oZ ah _)<|z J<|bV ?_;repeat(first|refine cQ ?_|refine lQ ?_|refine mq ?_)
    exact atR J
 .have h:k=0:=by have h:¬(Z (r k):Y)>0:=bc h;exact Decidable.byContradiction λo=>by have:=oX.2 o;omega
  subst h;rw[M5]at hg;subst hg;exact bt<|aK<|bH J J (oZ ah _) J<|c7 J
def apB{m}(h:Z (r m)=1):(m:Y)=I (r m) 0 0:=by
 have:=eJ m;rw[<-this];match hw:r m,h with
 |[w],_=>show w+4294967296*0=w;omega
def FV a:ao c 156 [aZ a] (cB<|decide<|a=1):=by
 refine aL Tryz.func156 ?_;refine e J<|R<|rg 6 J J (λh=>?_)<|λh=>?_
 .have f:0<=a:=by have h:(!cj a)=ae:=h;simpa[cj]using h
  refine rg 12 J J (λb=>?_)<|λb=>?_
  .have b:Z (r<|aA a)=1:=by have b:(Z (r<|aA a):Y)=1:=eq_of_beq b;omega
   have g:Z (er a)=1:=b;refine z J (bY J<|bh cB ?_) (hp:=?_)
   .show((I (r<|aA a) 0 0)==1)=decide (a=1);have:=apB b;by_cases d:a=1
    .subst d;rfl
    .rw[s5 d];exact beq_eq_false_iff_ne.2<|λi=>d G
   .simp only[Pr.an,Pr.h,num,fX,true_and,and_true];first|done|omega
  .refine z J<|bY J<|bh cB ?_;rw[s5];intro d;subst d;cases b
 .have f:a<0:=by have h:(!cj a)=ah:=h;simpa[cj]using h
  refine rg 12 J J (λb=>by cases b)<|λb=>?_;refine z J<|bY J<|bh cB ?_;rw[s5 G]
def JD x a(d:Sm x)(f:Sm a):ao c 127 [S .z [x,a]] (aZ<|x*a):=by
 refine aL Tryz.func127 ?_;refine e J<|bH J J (TD 1 D D) J<|j<|e J ?_;refine az<|bq (α:=V) (λi=>⟨[(7,S .z [x,a]),(2,.c<|.P 0 0),(3,.c<|.P 1001000 0),(8,O 2),(9,O i)],[(0,.box 42 0 [.B ah,.V<|.slice none 0 0]),(1001000,.box 42 0<|av .z (if i=0 then 1 else if i=1 then x else x*a))],3,[]⟩) (λi=>i<=2) (λi=>2-i) 0 D (wk (bM J) ⟨bE J J,bE J J,A⟩) ?_;intro i g;rcases(G:i=0\/i=1\/i=2)with b|b|b
 .subst b;refine e J<|j<|F J (λ_=>aE ?_)<|λh=>fR;refine j (az<|e J (az<|bH J J (FV x) J<|F J (λh=>dc ?_)<|λh=>?_) (hp:=ad2))
  .have h:x=1:=aW h;subst h;exact fB<|bL<|rt J (hp:=aF)<|a4 1 D D<|wk (bM J) ⟨bE J J,bE J J,A⟩
  .refine bH J J (FV 1) J<|F J (λh=>?_)<|λh=>fR;exact rt J<|fB<|bL<|rt J (hp:=aF)<|a4 1 D D<|wk (bM J) ⟨bE J J,bE J J,A⟩
 .subst b;refine e J<|j<|F J (λ_=>aE ?_)<|λh=>fR;refine j (az<|e J (az<|bH J J (FV a) J<|F J (λh=>dc ?_)<|λh=>?_) (hp:=ad2))
  .have h:a=1:=aW h;subst h;refine fB<|bL<|rt J (hp:=aF)<|a4 2 D D<|wk (bM J) ⟨bE J J,bE J ?_,A⟩;show aD.box 42 0 (av .z x)=aD.box 42 0 (av .z<|x*1);rw[ni]
  .refine bH J J (FV x) J (F J (λh=>?_)<|λh=>?_)
   .have h:x=1:=aW h;subst h;refine rt J<|fB<|bL<|rt J (hp:=aF)<|a4 2 D D<|wk (bM J) ⟨bE J J,bE J ?_,A⟩;show aD.box 42 0 (av .z a)=aD.box 42 0 (av .z<|1*a);rw[kX]
   .exact cK<|rc J J (amY x a d f)<|z J<|fB<|bL<|rt J (hp:=aF)<|a4 2 D D<|wk (bM J) ⟨bE J J,bE J J,A⟩
 .subst b;refine e J<|j<|F J (λh=>fR)<|λ_=>?_;exact bt<|aK<|e J<|c7 J
end Go.El
